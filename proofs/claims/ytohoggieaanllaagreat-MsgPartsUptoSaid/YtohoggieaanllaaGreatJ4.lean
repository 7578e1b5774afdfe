import Derived.Test.YtohoggieaanllaaGreatJ3
section
set_option linter.all false
set_option linter.unusedSimpArgs false
namespace Go.Proofs.YtohoggieaanllaaGreat
def NR (R:Nat→Prop) (ι:VI) (H:WH) (M:Heap) (v:AV) (H':WH) (a:AV):Prop:=∃ bF,VS R bF H' M∧Stp H.length [] ι H M bF H' M∧VL M (OR R bF) bF v a
def NRL (R:Nat→Prop) (ι:VI) (H:WH) (M:Heap) (v:List AV) (H':WH) (a:List AV):Prop:=∃ bF,VS R bF H' M∧Stp H.length [] ι H M bF H' M∧bM M (OR R bF) bF v a
theorem NR.quiet {R:Nat→Prop} {ι:VI} {H:WH} {M:Heap} (s:VS R ι H M) {v a:AV} (h:VL M (OR R ι) ι v a):NR R ι H M v H a:=⟨ι,s,.refl _ _ _ _ _ (Nat.le_refl _),h⟩
theorem Q7 {R:Nat→Prop} {ι:VI} {H:WH} {M:Heap} (s:VS R ι H M) {cs cs':List AV} (h:bM M (OR R ι) VI.none cs cs') {sz n:Nat} (hl:cs.length=n * sz) (ex sl:Bool) :
  ∃ bF,VS R bF (H++[some (.cells cs false true)]) (M.push (.cells cs' false sl))∧Stp H.length [] ι H M bF (H++[some (.cells cs false true)]) (M.push (.cells cs' false sl)) ∧
   VL (M.push (.cells cs' false sl)) (OR R bF) bF (.acc H.length 0 sz n true) (.slice (some (M.next,0)) sz n n ex):=by
 have hl':=h.length
 obtain ⟨h1,h2⟩:=s.push (x:=.cells cs false true) (y:=.cells cs' false sl) (d:=(cs.length,cs'.length)) ⟨cs',[],false,sl,cs'.length,by simp,λ_=>rfl,rfl,by simp,by simpa using h,λh=>by cases h⟩
 refine ⟨_,h1,h2, ?_⟩
 simp only [VL]
 refine ⟨_,_,_,_,rfl,Nat.le_refl _,(λh=>by cases h),λ_=>rfl,cs.length,cs'.length,by simp [VI.add,setAt],by omega,λ_=>⟨trivial,hl.symm⟩,.inl ⟨M.next,by simp [VI.add,setAt],.inl ⟨rfl,by omega⟩⟩⟩
theorem MB {R:Nat→Prop} {ι:VI} {H:WH} {M:Heap} (s:VS R ι H M) (sz s':Nat) (p:Option (Nat×Nat)) (hp:p≠none→s'=sz) :
  ∃ bF,VS R bF (H++[some (.cells [] false true)]) M∧Stp H.length [] ι H M bF (H++[some (.cells [] false true)]) M∧VL M (OR R bF) bF (.acc H.length 0 sz 0 true) (.slice p s' 0 0 true):=by
 obtain ⟨h1,h2⟩:=s.ain
 refine ⟨_,h1,h2, ?_⟩
 simp only [VL]
 exact ⟨_,_,_,_,rfl,Nat.le_refl _,by simp,hp,0,0,by simp [VI.gN,setAt],by omega,by simp,.inr ⟨by simp [VI.gN,setAt],by simp⟩⟩
theorem Q8 {R:Nat→Prop} {ι:VI} {H:WH} {M:Heap} (s:VS R ι H M) {b j:Nat} (hb:ι b=some j) {c0:List AV} {sl0:Bool} (hg:dh H b=some (.cells c0 false sl0)) {cs cs' t:List AV} {ro sl:Bool} {L:Nat}
  (hj:M.get j=some (.cells (cs'++t) ro sl)) (hro:ro=false) (h:bM M (OR R ι) VI.none cs cs') (hL:L≤(cs'++t).length) {sz n cap:Nat} (hl:cs.length=n * sz) {p:Option (Nat×Nat)} {s':Nat} {ex:Bool} (hn:n≤cap) (hnp:p=none→cap=0∧ex=true) (hs:p≠none→s'=sz)
  (hp:(p=some (j,0)∧cap * sz≤L)∨(n=0∧cap=0∧ex=true)) :
  ∃ bF,VS R bF (gY H b none++[some (.cells cs false true)]) M∧Stp H.length [b] ι H M bF (gY H b none++[some (.cells cs false true)]) M∧VL M (OR R bF) bF (.acc H.length 0 sz n true) (.slice p s' n cap ex):=by
 obtain ⟨h1,h2,h3⟩:=s.swap hb hg (x:=.cells cs false true) (y:=.cells (cs'++t) ro sl) (d:=(cs.length,L)) ⟨cs',t,ro,sl,L,rfl,λ_=>hro,rfl,hL,by simpa using h⟩
 rw [Heap.Ms hj] at h1 h2
 refine ⟨_,h1,h2, ?_⟩
 simp only [VL]
 exact ⟨_,_,_,_,rfl,hn,hnp,hs,cs.length,L,by simp [VI.add,setAt],by omega,λ_=>⟨trivial,hl.symm⟩,.inl ⟨j,h3,hp.imp (λh=>⟨h.1,by omega⟩) (λh=>h)⟩⟩
theorem Stp.still {n:Nat} {t t':List Nat} {ι lu:VI} {H H1:WH} {M:Heap} (h:Stp n t ι H M lu H1 M):Stp n t' ι H M lu H1 M :=
 ⟨h.keep,h.le,h.gone,h.toq,h.aan,h.Vg,h.live,λ_ _ _ _ _ _=>rfl,h.next⟩
theorem aio {R:Nat→Prop} {ι:VI} {H:WH} {M:Heap} (s:VS R ι H M) {b sz n:Nat} {w:Bool} {a:AV} (h:VL M (OR R ι) ι (.acc b 0 sz n w) a) {c:List AV} (hg:dh H b=some (.cells c false true)) :
  NR R ι H M (.acc H.length 0 sz n true) (gY H b none++[some (.cells (c.take (n * sz)) false true)]) a:=by
 obtain ⟨k1,k2,p,s',cap,ex,rfl,k3,k4,k5⟩:=VL.uU s h hg
 simp only [Nat.zero_add] at k1
 have hnp:p=none→cap=0∧ex=true:=by
  simp only [VL] at h
  obtain ⟨_,_,_,_,e,_,q,_⟩:=h
  simp only [AV.slice.injEq] at e
  obtain ⟨rfl,rfl,_,rfl,rfl⟩:=e
  exact q
 have hlt:(c.take (n * sz)).length=n * sz:=by simp only [List.length_take];omega
 have part:∀ {c' t:List AV},(c'.take (n * sz))++(c'.drop (n * sz)++t)=c'++t:=λ{c' t}=>by rw [← List.append_assoc,List.take_append_drop]
 rcases k5 with ⟨j,c',t,ro',sl',L,g1,g2,g3,g4,g5,g6,rfl,g7⟩ | ⟨rfl,rfl,rfl,⟨j,c',t,ro',sl',L,g1,g2,g3,g4,g5,g6⟩ | ⟨g1,rfl,_⟩⟩
 ·simp only [if_true] at g6
  obtain ⟨bF,q1,q2,q3⟩:=Q8 s g1 hg (cs:=c.take (n * sz)) (cs':=c'.take (n * sz)) (t:=c'.drop (n * sz)++t) (by rw [part];exact g2) (g3 rfl).1 (g6.take _) (by rw [part];exact g5) hlt k3 hnp k4 (.inl ⟨rfl,by omega⟩)
  exact ⟨bF,q1,q2.still,q3⟩
 ·simp only [if_true] at g6
  obtain ⟨bF,q1,q2,q3⟩:=Q8 s g1 hg (cs:=c.take (0 * sz)) (cs':=c'.take (0 * sz)) (t:=c'.drop (0 * sz)++t) (by rw [part];exact g2) (g3 rfl).1 (g6.take _) (by rw [part];exact g5) hlt k3 hnp k4 (.inr ⟨rfl,rfl,rfl⟩)
  exact ⟨bF,q1,q2.still,q3⟩
 ·obtain ⟨h1,h2⟩:=s.ab6 g1
  obtain ⟨bF,q1,q2,q3⟩:=MB h1 sz s' p k4
  rw [dZ] at q2 q3
  refine ⟨bF,by simpa using q1, ?_,q3⟩
  have:=h2.trans q2 (Nat.le_refl _)
  simpa using this.still
mutual
theorem ab8 {R:Nat→Prop} (v:AV) (H:WH) (ι:VI) (M:Heap) (a:AV) (s:VS R ι H M) (h:VL M (OR R ι) ι v a):NR R ι H M (acX v H).1 (acX v H).2 a:=by
 rw [acX.eq_def]
 split
 ·simp only [VL] at h
  obtain ⟨_,s',rfl⟩:=h
  exact MB s _ s' none (λh=>absurd rfl h)
 ·split
  ·rename_i w _ c hg
   have ht:=aio s h hg
   cases w with
   | false=>exact ht
   | true =>
    have hc:=(VL.uU s h hg).2.1 rfl
    simp only [akP]
    rw [List.take_of_length_le (by omega)] at ht
    exact ht
  ·exact NR.quiet s h
 ·rename_i cs
  simp only [VL] at h
  obtain ⟨cs',rfl,h⟩:=h
  obtain ⟨bF,h1,h2,h3⟩:=RL cs H ι M cs' s h
  split
  rename_i l H' e
  rw [e] at h1 h2 h3
  exact ⟨bF,h1,h2,by simp only [VL];exact ⟨cs',rfl,h3⟩⟩
 ·rename_i cs
  simp only [VL] at h
  obtain ⟨cs',rfl,h⟩:=h
  obtain ⟨bF,h1,h2,h3⟩:=RL cs H ι M cs' s h
  split
  rename_i l H' e
  rw [e] at h1 h2 h3
  exact ⟨bF,h1,h2,by simp only [VL];exact ⟨cs',rfl,h3⟩⟩
 ·exact NR.quiet s h
termination_by SizeOf.sizeOf v
theorem RL {R:Nat→Prop} (v:List AV) (H:WH) (ι:VI) (M:Heap) (a:List AV) (s:VS R ι H M) (h:bM M (OR R ι) ι v a):NRL R ι H M (Vf v H).1 (Vf v H).2 a:=by
 rw [Vf.eq_def]
 split
 ·exact ⟨ι,s,.refl _ _ _ _ _ (Nat.le_refl _),h⟩
 ·rename_i v r
  cases a with
  | nil=>simp [bM] at h
  | cons a l =>
   simp only [bM] at h
   obtain ⟨lu,h1,h2,h3⟩:=ab8 v H ι M a s h.1
   obtain ⟨yu,k1,k2,k3⟩:=RL r (acX v H).2 lu M l h1 (bM.step s h2 h.2)
   split
   rename_i x1 x2 e
   rw [e] at h1 h2 h3 k1 k2 k3
   split
   rename_i y1 y2 e'
   rw [e'] at k1 k2 k3
   refine ⟨yu,k1, ?_,by simp only [bM];exact ⟨VL.step h1 k2 h3,k3⟩⟩
   have:=h2.trans k2 h2.next
   simpa using this
termination_by SizeOf.sizeOf v
end
theorem aau {R:Nat→Prop} (m:Option Bool) {v:AV} {H:WH} {ι:VI} {M:Heap} {a:AV} (s:VS R ι H M) (h:VL M (OR R ι) ι v a):NR R ι H M (nrm m v H).1 (nrm m v H).2 a:=by
 match m with
 | none=>exact NR.quiet s h
 | some true=>exact ab8 v H ι M a s h
 | some false =>
  simp only [nrm]
  split
  case h_2=>exact NR.quiet s h
  rename_i p hp
  obtain ⟨h1,h2⟩:=s.ac1 p.2 (tZ 5 false v p hp)
  refine ⟨_,h1,h2, ?_⟩
  have:=aat s (O':=OR R (ι.yN p.2)) (λj h=>h.imp Q6 id) (uH:=ι.yN p.2) (WK _ _ _) 5 false v p a hp h (λb hb j hj=>?_)
  ·exact this
  ·have lv:=tZ 5 false v p hp b hb
   rintro (⟨i,q1,q2⟩ | hR)
   ·simp only [VI.yN,Bool.or_eq_false_iff] at q1 q2
    have:=s.inj i b j (.inr q2.1) (.inl lv) q1 hj (.inl q2.1)
    subst this
    rw [za.2 hb] at q2
    cases q2.2
   ·exact (s.res j hR).2 b (.inl lv) hj
theorem Q9 {R:Nat→Prop}:∀ (ms:List (Option Bool)) (v:List AV) (H:WH) (ι:VI) (M:Heap) (a:List AV),VS R ι H M→bM M (OR R ι) ι v a→NRL R ι H M (Mj ms v H).1 (Mj ms v H).2 a
 | ms,[],H,ι,M,a,s,h=>by
  simp only [Mj]
  exact ⟨ι,s,.refl _ _ _ _ _ (Nat.le_refl _),h⟩
 | ms,v::r,H,ι,M,a,s,h=>by
  cases a with
  | nil=>simp [bM] at h
  | cons a l =>
   simp only [bM] at h
   obtain ⟨lu,h1,h2,h3⟩:=aau (ms.headD (some false)) s h.1
   obtain ⟨yu,k1,k2,k3⟩:=Q9 ms.tail r _ lu M l h1 (bM.step s h2 h.2)
   simp only [Mj]
   refine ⟨yu,k1, ?_,by simp only [bM];exact ⟨VL.step h1 k2 h3,k3⟩⟩
   have:=h2.trans k2 h2.next
   simpa using this
theorem ab9 {R:Nat→Prop} (m:Option Bool):∀ (v:List AV) (H:WH) (ι:VI) (M:Heap) (a:List AV),VS R ι H M→bM M (OR R ι) ι v a→NRL R ι H M (Yh m v H).1 (Yh m v H).2 a
 | [],H,ι,M,a,s,h=>by
  simp only [Yh]
  exact ⟨ι,s,.refl _ _ _ _ _ (Nat.le_refl _),h⟩
 | v::r,H,ι,M,a,s,h=>by
  cases a with
  | nil=>simp [bM] at h
  | cons a l =>
   simp only [bM] at h
   obtain ⟨lu,h1,h2,h3⟩:=aau m s h.1
   obtain ⟨yu,k1,k2,k3⟩:=ab9 m r _ lu M l h1 (bM.step s h2 h.2)
   simp only [Yh]
   refine ⟨yu,k1, ?_,by simp only [bM];exact ⟨VL.step h1 k2 h3,k3⟩⟩
   have:=h2.trans k2 h2.next
   simpa using this
theorem VS.alx {R:Nat→Prop} {ι:VI} {H:WH} {M:Heap} (s:VS R ι H M) {b:Nat} {c c':List AV} {ro:Bool} (hg:dh H b=some (.cells c ro false)) (hc:∀ j d t ro' sl',ι b=some j→M.get j=some (.cells (d++t) ro' sl')→d.length=c.length→bM M (OR R ι) ι c' d) (hl:c'.length=c.length) :
  VS R ι (gY H b (some (.cells c' ro false))) M∧Stp H.length [] ι H M ι (gY H b (some (.cells c' ro false))) M:=by
 have hbl:=rX hg
 have gp:∀ k,dh (gY H b (some (.cells c' ro false))) k=if k=b then some (.cells c' ro false) else dh H k:=λk=>by
  rw [o_]
  by_cases e:k=b
  ·rw [if_pos ⟨e,hbl⟩,if_pos e]
  ·rw [if_neg (λh=>e h.1),if_neg e]
 have lv:∀ k,(∃ z,dh (gY H b (some (.cells c' ro false))) k=some z)→∃ z,dh H k=some z:=λk ⟨z,hz⟩=>by
  rw [gp] at hz
  by_cases e:k=b
  ·exact ⟨_,e ▸ hg⟩
  ·rw [if_neg e] at hz
   exact ⟨z,hz⟩
 refine ⟨⟨λi j h=>by rw [dZ];exact s.lt i j h,λi i' j h h' e e'=>s.inj i i' j (h.imp (lv i) id) (h'.imp (lv i') id) e e',λi z hz=>?_,λi h=>by rw [dZ];exact s.y9 i h,λi hi c1 sl h=>?_,s.Z5,λj h=>⟨(s.res j h).1,λi hi=>(s.res j h).2 i (hi.imp (lv i) id)⟩⟩,
  ⟨.refl _ _,.refl _ _,λ_ _ h=>h,λ_ _=>rfl,λ_ _=>rfl,λ_ _ _=>rfl,λi _=>lv i,λ_ _ _ _ _ _=>rfl,by rw [dZ];exact Nat.le_refl _⟩⟩
 ·rw [gp] at hz
  by_cases e:i=b
  ·subst e
   rw [if_pos rfl] at hz
   obtain rfl:=Option.some.inj hz
   rcases s.blk i _ hg with ⟨_,_,ro',h⟩ | ⟨j,h1,⟨d,t,ro',sl',L,g1,g2,g3,g4,g5,g6⟩,h2⟩
   ·cases h
   ·exact .inr ⟨j,h1,⟨d,t,ro',sl',L,g1,g2,by rw [hl];exact g3,g4,by simpa using hc j d t ro' sl' h1 g1 g5.length.symm,g6⟩,h2⟩
  ·rw [if_neg e] at hz
   exact s.blk i z hz
 ·rw [gp] at h
  by_cases e:i=b
  ·rw [if_pos e] at h
   subst e
   cases h
   exact s.yN i hi c _ hg
  ·rw [if_neg e] at h
   exact s.yN i hi c1 sl h
theorem aip {R:Nat→Prop} (m:Option Bool) (b:Nat) {H:WH} {ι:VI} {M:Heap} (s:VS R ι H M):∃ bF,VS R bF (aif m b H) M∧Stp H.length [] ι H M bF (aif m b H) M:=by
 have quiet:∃ bF,VS R bF H M∧Stp H.length [] ι H M bF H M:=⟨ι,s,.refl _ _ _ _ _ (Nat.le_refl _)⟩
 unfold aif
 cases m with
 | none=>exact quiet
 | some m =>
 simp only
 split
 case h_2=>exact quiet
 rename_i c ro hg
 rcases s.blk b _ hg with ⟨_,_,ro',h⟩ | ⟨j,h1,⟨d,t,ro',sl',L,g1,g2,g3,g4,g5,g6⟩,h2⟩
 ·cases h
 simp only [Bool.false_eq_true,if_false] at g5
 obtain ⟨lu,k1,k2,k3⟩:=ab9 (some m) c H ι M d s g5
 split
 case h_2=>exact ⟨lu,k1,k2⟩
 rename_i c2 ro2 hg2
 have hj1:=((k2.le b (rX hg)).1 j h1).1
 have hd:=((k2.le b (rX hg)).1 j h1).2 _ g3
 have hl1:(Yh (some m) c H).1.length=c.length:=by rw [k3.length,g5.length]
 have hl2:c2.length=c.length:=by
  obtain ⟨_,_,_,_,_,_,_,e,_⟩:=k1.at hj1 hg2
  rw [hd] at e
  simp only [Option.some.injEq,Prod.mk.injEq] at e
  exact e.1.symm
 obtain ⟨q1,q2⟩:=k1.alx hg2 (c':=(Yh (some m) c H).1) (λj' d' t' ro' sl' e1 e2 e3=>by
  rw [hj1] at e1
  obtain rfl:=Option.some.inj e1
  rw [g1] at e2
  simp only [Option.some.injEq,kN.cells.injEq] at e2
  have:d'=d:=by
   have:=congrArg (List.take c.length) e2.1
   rw [List.take_left' (by rw [g5.length]),List.take_left' (by rw [e3,hl2])] at this
   exact this.symm
  rw [this]
  exact k3) (by rw [hl1,hl2])
 refine ⟨lu,q1, ?_⟩
 have:=k2.trans q2 k2.next
 simpa using this
theorem ME {R:Nat→Prop}:∀ (ms:List (Option Bool)) (m:Option Bool) (p:List Nat) (H:WH) (ι:VI) (M:Heap),VS R ι H M→∃ bF,VS R bF (Pv ms m p H) M∧Stp H.length [] ι H M bF (Pv ms m p H) M
 | ms,m,[],H,ι,M,s=>⟨ι,s,.refl _ _ _ _ _ (Nat.le_refl _)⟩
 | ms,m,b::p,H,ι,M,s=>by
  obtain ⟨lu,h1,h2⟩:=aip (ms.headD m) b s
  obtain ⟨yu,k1,k2⟩:=ME ms.tail m p _ lu M h1
  simp only [Pv]
  refine ⟨yu,k1, ?_⟩
  have:=h2.trans k2 h2.next
  simpa using this
end Go.Proofs.YtohoggieaanllaaGreat
end
section
set_option linter.all false
set_option linter.unusedSimpArgs false
namespace Go.Proofs.YtohoggieaanllaaGreat
theorem Ob {bytes k:Nat} (h:dB bytes k=true):k * bytes≤70368744177664∧k≤70368744177664:=by simpa [dB] using h
theorem bM.yN {R:Nat→Prop} {ι:VI} {M:Heap} {S:List Nat} {l r:List AV} (h:bM M (OR R ι) VI.none l r):bM M (OR R (ι.yN S)) VI.none l r :=
 bM.mono ⟨Nat.le_refl _,λb _ h=>⟨rfl,λk=>h (k.imp Q6 id)⟩⟩ _ _ _ _ (.refl _ _) h
theorem WL {R:Nat→Prop} {ι:VI} {H:WH} {M:Heap} (s:VS R ι H M) {k:Nat} {nested:Bool} {l:List AV} {p:List AV×List Nat} {r:List AV} (h:Fw (Z4 H k nested) l=some p) (hr:bM M (OR R ι) ι l r) :
  bM M (OR R (ι.yN p.2)) (Mw nested (ι.yN p.2)) p.1 r:=by
 refine RJ (P:=λb=>b∈p.2) (λv q a hq hv hb=>?_) l p r h hr (λ_ h=>h)
 refine aat s (O':=OR R (ι.yN p.2)) (λj h=>h.imp Q6 id) (uH:=ι.yN p.2) (WK _ _ _) k nested v q a hq hv (λb hb' j hj=>?_)
 have lv:=tZ k nested v q hq b hb'
 rintro (⟨i,q1,q2⟩ | hR)
 ·simp only [VI.yN,Bool.or_eq_false_iff] at q1 q2
  have:=s.inj i b j (.inr q2.1) (.inl lv) q1 hj (.inl q2.1)
  subst this
  rw [za.2 (hb _ hb')] at q2
  cases q2.2
 ·exact (s.res j hR).2 b (.inl lv) hj
theorem Oc {R:Nat→Prop} {ι:VI} {H:WH} {M:Heap} (s:VS R ι H M) {x a:AV} (hx:VL M (OR R ι) ι x a) {sz n:Nat} {cs:List AV} {S:List Nat} (h:Hr x sz H=some (n,cs,S)) :
  dV a sz=true∧cs.length=n * sz∧∃ cs',kU a M=some (n,cs')∧bM M (OR R (ι.yN S)) VI.none cs cs':=by
 unfold Hr at h
 split at h
 ·rename_i sz' n' cs' ex
  split at h
  case h_2=>cases h
  rename_i e
  obtain rfl:=Nat.eq_of_beq_eq_true e
  simp only [Option.some.injEq,Prod.mk.injEq] at h
  obtain ⟨rfl,rfl,rfl⟩:=h
  simp only [VL] at hx
  rcases hx with ⟨rfl,rfl,s',rfl⟩ | ⟨b,o,cap,ex',rfl,q1,q2,q3,q4⟩
  ·exact ⟨rfl,by simp,[],rfl,by simp [bM]⟩
  ·refine ⟨by simp [dV],q3, ?_⟩
   by_cases hn:n'=0
   ·subst hn
    rw [Nat.zero_mul] at q3
    obtain rfl:=List.eq_nil_of_length_eq_zero q3
    exact ⟨[],by simp [kU],by simp [bM]⟩
   ·obtain ⟨c,ro,sl,g1,g2,g3,g4,g5⟩:=q4 hn
    refine ⟨(c.drop o).take (n' * sz'), ?_,g5.yN⟩
    simp only [kU,if_neg hn,Heap.read,g1,if_pos g4,Option.map_some]
 ·simp only [Option.some.injEq,Prod.mk.injEq] at h
  obtain ⟨rfl,rfl,rfl⟩:=h
  simp only [VL] at hx
  obtain ⟨_,s',rfl⟩:=hx
  exact ⟨rfl,by simp,[],rfl,by simp [bM]⟩
 ·rename_i t
  split at h
  case h_2=>cases h
  rename_i e
  obtain rfl:=Nat.eq_of_beq_eq_true e
  simp only [Option.some.injEq,Prod.mk.injEq] at h
  obtain ⟨rfl,rfl,rfl⟩:=h
  obtain rfl:=hx.eq rfl
  refine ⟨rfl,by simp,_,rfl, ?_⟩
  have:∀ t:List UInt8,bM M (OR R (ι.yN [])) VI.none (t.map λb=>AV.int .u8 b.toNat) (t.map λb=>AV.int .u8 b.toNat):=λt=>by
   induction t with
   | nil=>simp [bM]
   | cons b t ih=>simp only [List.map_cons,bM,VL];exact ⟨trivial,ih⟩
  exact this t
 ·rename_i b o sz' n' w
  split at h
  case h_2=>cases h
  rename_i e
  obtain rfl:=Nat.eq_of_beq_eq_true e
  split at h
  case h_2=>cases h
  rename_i c ro sl hg
  obtain ⟨k1,k2,p,s',cap,ex,rfl,k3,k4,k5⟩:=VL.uU s hx hg
  have fin:∀ (cs:List AV) (S:List Nat),cs.length=n' * sz'→(∀ c' t,bM M (OR R ι) (if sl then VI.none else ι) c c'→bM M (OR R (ι.yN S)) VI.none cs (((c'++t).drop o).take (n' * sz'))) →
    dV (.slice p s' n' cap ex) sz'=true∧cs.length=n' * sz'∧∃ cs',kU (.slice p s' n' cap ex) M=some (n',cs')∧bM M (OR R (ι.yN S)) VI.none cs cs':=by
   intro cs S h1 h2
   have hz:dV (.slice p s' n' cap ex) sz'=true:=by
    cases p with
    | none =>
     rcases k5 with ⟨j,_,_,_,_,_,_,_,_,_,_,_,e,_⟩ | ⟨e,_⟩
     ·cases e
     ·simp [dV,e]
    | some p=>simp [dV,k4 (by simp)]
   refine ⟨hz,h1, ?_⟩
   have hn0:n'=0→cs=[]:=λe=>by
    subst e
    rw [Nat.zero_mul] at h1
    exact List.eq_nil_of_length_eq_zero h1
   rcases k5 with ⟨j,c',t,ro',sl',L,g1,g2,g3,g4,g5,g6,rfl,g7⟩ | ⟨e,_⟩
   ·obtain rfl:=k4 (by simp)
    by_cases hn:n'=0
    ·rw [hn0 hn]
     subst hn
     exact ⟨[],by simp [kU],by simp [bM]⟩
    ·have hl:=g6.length
     refine ⟨_, ?_,h2 c' t g6⟩
     simp only [kU,if_neg hn,Heap.read,g2]
     rw [if_pos (by simp only [List.length_append];omega)]
     rfl
   ·rw [hn0 e]
    subst e
    refine ⟨[], ?_,by simp [bM]⟩
    cases p<;>simp [kU]
  split at h
  ·simp only [Option.some.injEq,Prod.mk.injEq] at h
   obtain ⟨rfl,rfl,rfl⟩:=h
   refine fin _ _ (Mt k1 k2) λc' t hc=>?_
   simp only [if_true] at hc
   exact (Mv hc k1 k2).yN
  ·split at h
   case h_2=>cases h
   split at h
   case h_2=>cases h
   rename_i q hq
   simp only [Option.some.injEq,Prod.mk.injEq] at h
   obtain ⟨rfl,rfl,rfl⟩:=h
   obtain ⟨k6,k7⟩:=k2 rfl
   refine fin _ _ (by rw [Mx _ _ hq,k7]) λc' t hc=>?_
   simp only [Bool.false_eq_true,if_false] at hc
   have:=WL s hq hc
   rw [k6,List.drop_zero,k7,hc.length,List.take_left' rfl]
   exact this
 ·cases h
theorem Hz {H:WH} {x:AV} {sz n:Nat} {cs:List AV} {S:List Nat} (h:Hr x sz H=some (n,cs,S)):∀ b∈S,∃ y,dh H b=some y:=by
 unfold Hr at h
 split at h
 ·split at h
  ·cases h;simp
  ·cases h
 ·cases h;simp
 ·split at h
  ·cases h;simp
  ·cases h
 ·split at h
  case h_2=>cases h
  split at h
  case h_2=>cases h
  split at h
  ·cases h;simp
  ·split at h
   case h_2=>cases h
   split at h
   case h_2=>cases h
   rename_i q hq
   cases h
   exact vC (λv p=>tZ 5 true v p) _ _ hq
 ·cases h
theorem Vo {R:Nat→Prop} {ι:VI} {H:WH} {M:Heap} (s:VS R ι H M) {x a:AV} (hx:VL M (OR R ι) ι x a) {sz bytes m len:Nat} {new new' old:List AV} (hnew:bM M (OR R ι) VI.none new new') (hl:new.length=m * sz) {H':WH} {t:List Nat}
  (h:RD x sz H=some (len,old,H',t)) (hf:dB bytes (len+m)=true) :
  ∃ a' M' bF,fM sz bytes a m new' M=some (a',M')∧VS R bF (H'++[some (.cells (old++new) false true)]) M'∧Stp H.length t ι H M bF (H'++[some (.cells (old++new) false true)]) M'∧VL M' (OR R bF) bF (.acc H'.length 0 sz (len+m) true) a':=by
 have hf':=Ob hf
 have hm0:m=0→new=[]:=λe=>by
  subst e
  rw [Nat.zero_mul] at hl
  exact List.eq_nil_of_length_eq_zero hl
 -- nothing was there
 have fresh:∀ (qF:VI) (H0:WH) (t0:List Nat),VS R qF H0 M→H0.length=H.length→Stp H.length t0 ι H M qF H0 M→∀ (p:Option (Nat×Nat)) (s':Nat),(p≠none→s'=sz)→0+m=len+m→∃ a' M' bF,fM sz bytes (.slice p s' 0 0 true) m new' M=some (a',M')∧VS R bF (H0++[some (.cells ([]++new) false true)]) M'∧Stp H.length t0 ι H M bF (H0++[some (.cells ([]++new) false true)]) M'∧VL M' (OR R bF) bF (.acc H0.length 0 sz (0+m) true) a':=by
  intro qF H0 t0 s0 hlen k0 p s' hps hlm
  by_cases hm:m=0
  ·obtain rfl:=hm0 hm
   subst hm
   obtain ⟨bF,q1,q2,q3⟩:=MB s0 sz sz p (λ_=>rfl)
   refine ⟨.slice p sz 0 0 true,M,bF, ?_,q1, ?_,q3⟩
   ·unfold fM
    cases p with
    | none=>simp
    | some p=>obtain rfl:=hps (by simp);simp
   ·have:=k0.trans q2 (by omega)
    simpa using this
  ·have e:fM sz bytes (.slice p s' 0 0 true) m new' M=some (.slice (some (M.next,0)) sz (0+m) (0+m) false,M.push (.cells ([]++new') false true)):=by
    unfold fM
    simp only
    rw [if_neg (λhc=>hc.2 (hps hc.1)),if_neg (by omega),if_pos (by rw [hlm];exact hf')]
    cases p with
    | none=>rfl
    | some p=>rfl
   have amg:=bM.Vm k0 hnew
   obtain ⟨bF,q1,q2,q3⟩:=Q7 s0 (cs:=[]++new) (cs':=[]++new') (by simpa using amg) (n:=0+m) (sz:=sz) (by simpa using hl) false true
   rw [e]
   refine ⟨_,_,bF,rfl,q1, ?_,q3⟩
   have:=k0.trans q2 (by omega)
   simpa using this
 unfold RD at h
 split at h
 ·simp only [Option.some.injEq,Prod.mk.injEq] at h
  obtain ⟨rfl,rfl,rfl,rfl⟩:=h
  simp only [VL] at hx
  obtain ⟨_,s',rfl⟩:=hx
  exact fresh ι H [] s rfl (.refl _ _ _ _ _ (Nat.le_refl _)) none s' (λh=>absurd rfl h) rfl
 ·rename_i b sz' n w
  split at h
  case h_2=>cases h
  rename_i e
  obtain rfl:=Nat.eq_of_beq_eq_true e
  -- one's own
  have main:∀ (c:List AV) (sl:Bool) (H1:WH) (lu:VI) (old:List AV),dh H b=some (.cells c false sl)→VS R lu H1 M→H1.length=H.length→Stp H.length [] ι H M lu H1 M→dh H1 b=some (.cells c false sl)→old.length=n * sz' →
    (∀ c' t,bM M (OR R ι) (if sl then VI.none else ι) c c'→bM M (OR R lu) VI.none old (((c'++t).drop 0).take (n * sz')))→len=n →
    ∃ a' M' bF,fM sz' bytes a m new' M=some (a',M')∧VS R bF (gY H1 b none++[some (.cells (old++new) false true)]) M'∧Stp H.length [b] ι H M bF (gY H1 b none++[some (.cells (old++new) false true)]) M'∧VL M' (OR R bF) bF (.acc (gY H1 b none).length 0 sz' (n+m) true) a':=by
   intro c sl H1 lu old hg s1 hlen k1 hg1 ho hr hln
   subst hln
   obtain ⟨q1,q2,p,s',cap,ex,rfl,q3,q4,q5⟩:=VL.uU s hx hg
   have hnp:p=none→cap=0∧ex=true:=by
    simp only [VL] at hx
    obtain ⟨_,_,_,_,e,_,q,_⟩:=hx
    simp only [AV.slice.injEq] at e
    obtain ⟨rfl,rfl,_,rfl,rfl⟩:=e
    exact q
   have hnew1:=bM.Vm k1 hnew
   rcases q5 with ⟨j,c',t,ro',sl',L,g1,g2,g3,g4,g5,g6,rfl,g7⟩ | ⟨rfl,rfl,rfl,⟨j,c',t,ro',sl',L,g1,g2,g3,g4,g5,g6⟩ | ⟨g1,rfl,rfl⟩⟩
   ·obtain rfl:=q4 (by simp)
    obtain ⟨rfl,_⟩:=g3 rfl
    have hj1:=((k1.le b (rX hg)).1 j g1).1
    have hlc:=g6.length
    have hcs:=Nat.mul_le_mul_right s' q3
    have hr':=hr c' t g6
    have hold:bM M (OR R lu) VI.none old ((c'++t).take (len * s')):=by simpa using hr'
    simp only [List.length_append] at g5
    by_cases hm:m=0
    ·obtain rfl:=hm0 hm
     subst hm
     have hn':new'=[]:=by
      have:=hnew.length
      exact List.eq_nil_of_length_eq_zero (by simpa using this.symm)
     subst hn'
     obtain ⟨bF,r1,r2,r3⟩:=Q8 s1 hj1 hg1 (cs:=old++[]) (cs':=(c'++t).take (len * s')) (t:=(c'++t).drop (len * s')) (by rw [List.take_append_drop];exact g2) rfl (by simpa using hold) (by rw [List.take_append_drop,List.length_append];exact g5) (n:=len+0) (by simpa using ho) q3 hnp q4 (.inl ⟨rfl,by omega⟩)
     refine ⟨_,M,bF, ?_,r1, ?_,by rw [dZ];exact r3⟩
     ·simp [fM,q3]
     ·have:=k1.trans r2 (by omega)
      simpa using this
    by_cases hfit:len+m≤cap
    ·-- in place
     have hle:len * s'+new'.length≤(c'++t).length:=by
      have:=Nat.mul_le_mul_right s' hfit
      rw [← hnew.length,hl,List.length_append,← Nat.add_mul]
      omega
     have hw:M.write j (0+len * s') new'=some (M.put j (some (.cells ((c'++t).take (len * s')++new'++(c'++t).drop (len * s'+new'.length)) false sl'))):=by
      simp only [Heap.write,g2,Nat.zero_add]
      rw [if_pos hle]
     have hlenp:L≤(((c'++t).take (len * s')++new')++(c'++t).drop (len * s'+new'.length)).length:=by
      simp only [List.length_append,List.length_take,List.length_drop] at hle ⊢
      omega
     obtain ⟨r1,r2,r3⟩:=s1.swap hj1 hg1 (x:=.cells (old++new) false true) (y:=.cells ((c'++t).take (len * s')++new'++(c'++t).drop (len * s'+new'.length)) false sl') (d:=((old++new).length,L))
      ⟨(c'++t).take (len * s')++new',(c'++t).drop (len * s'+new'.length),false,sl',L,rfl,λ_=>rfl,rfl,hlenp,by simpa using hold.append hnew1,λh=>by cases h⟩
     refine ⟨.slice (some (j,0)) s' (len+m) cap ex,_,_, ?_,r1, ?_, ?_⟩
     rotate_left
     ·have:=k1.trans r2 (by omega)
      simpa using this
     ·rw [dZ]
      simp only [VL]
      refine ⟨some (j,0),s',cap,ex,rfl,hfit,(λh=>by cases h),λ_=>rfl,(old++new).length,L,by simp [VI.add,setAt], ?_,λ_=>⟨trivial, ?_⟩,.inl ⟨j,r3,.inl ⟨rfl,by omega⟩⟩⟩
      ·rw [List.length_append,ho,hl,Nat.add_mul];omega
      ·rw [List.length_append,ho,hl,Nat.add_mul]
     ·unfold fM
      simp only
      rw [if_neg (by simp),if_pos hfit,if_neg hm,hw]
      rfl
    ·obtain ⟨aav,e1,e2⟩:∃ aav,(if (ex=true∧len=0) then some [] else M.read j 0 (len * s'))=some aav∧bM M (OR R lu) VI.none old aav:=by
      by_cases hc:ex=true∧len=0
      ·rw [if_pos hc]
       rw [hc.2,Nat.zero_mul] at ho
       obtain rfl:=List.eq_nil_of_length_eq_zero ho
       exact ⟨[],rfl,by simp [bM]⟩
      ·rw [if_neg hc]
       refine ⟨(c'++t).take (len * s'), ?_,hold⟩
       simp only [Heap.read,g2]
       rw [if_pos (by simp only [List.length_append];omega),List.drop_zero]
     have hlo:(old++new).length=(len+m) * s':=by rw [List.length_append,ho,hl,Nat.add_mul]
     cases ex with
     | true =>
      have e:fM s' bytes (.slice (some (j,0)) s' len cap true) m new' M=some (.slice (some (M.next,0)) s' (len+m) (len+m) false,M.push (.cells (aav++new') false true)):=by
       unfold fM
       simp only
       rw [if_neg (by simp),if_neg hfit,if_pos hf']
       simp only [eq_self,true_and,if_true] at e1 ⊢
       rw [e1]
       rfl
      obtain ⟨r1,r2⟩:=s1.kill hj1 hg1 (M.get j)
      rw [Heap.Ms rfl] at r1 r2
      have rk:=k1.trans r2 (by omega)
      obtain ⟨bF,u1,u2,u3⟩:=Q7 r1 (cs:=old++new) (cs':=aav++new') (bM.Vm r2 (e2.append hnew1)) hlo false true
      rw [e]
      refine ⟨_,_,bF,rfl,u1, ?_,u3⟩
      have:=rk.trans u2 (by rw [dZ];omega)
      simpa using this
     | false =>
      have e:fM s' bytes (.slice (some (j,0)) s' len cap false) m new' M=some (.slice (some (M.next,0)) s' (len+m) (len+m) false,(M.put j none).push (.cells (aav++new') false true)):=by
       unfold fM
       simp only
       rw [if_neg (by simp),if_neg hfit,if_pos hf']
       simp only [Bool.false_eq_true,false_and,if_false] at e1 ⊢
       rw [e1]
       simp [g2]
      obtain ⟨r1,r2⟩:=s1.kill hj1 hg1 none
      have rk:=k1.trans r2 (by omega)
      obtain ⟨bF,u1,u2,u3⟩:=Q7 r1 (cs:=old++new) (cs':=aav++new') (bM.Vm r2 (e2.append hnew1)) hlo false true
      rw [e]
      refine ⟨_,_,bF,rfl,u1, ?_,u3⟩
      have:=rk.trans u2 (by rw [dZ];omega)
      simpa using this
   ·-- empty,and no room
    rw [Nat.zero_mul] at ho
    obtain rfl:=List.eq_nil_of_length_eq_zero ho
    have hj1:=((k1.le b (rX hg)).1 j g1).1
    by_cases hm:m=0
    ·obtain rfl:=hm0 hm
     subst hm
     have hn':new'=[]:=by
      have:=hnew.length
      exact List.eq_nil_of_length_eq_zero (by simpa using this.symm)
     subst hn'
     obtain ⟨bF,r1,r2,r3⟩:=Q8 s1 hj1 hg1 (cs:=[]++[]) (cs':=[]) (t:=c'++t) g2 (g3 rfl).1 (by simp [bM]) g5 (n:=0+0) (sz:=sz') (by simp) (Nat.le_refl _) hnp (s':=sz') (λ_=>rfl) (.inr ⟨rfl,rfl,rfl⟩)
     refine ⟨_,M,bF, ?_,r1, ?_,by rw [dZ];exact r3⟩
     ·cases p with
      | none=>simp [fM]
      | some p=>obtain rfl:=q4 (by simp);simp [fM]
     ·have:=k1.trans r2 (by omega)
      simpa using this
    ·obtain ⟨r1,r2⟩:=s1.kill hj1 hg1 (M.get j)
     rw [Heap.Ms rfl] at r1 r2
     have:=fresh _ _ _ r1 (by rw [dZ];exact hlen) (k1.trans r2 (by omega)) p s' q4 rfl
     simpa using this
   ·rw [Nat.zero_mul] at ho
    obtain rfl:=List.eq_nil_of_length_eq_zero ho
    have hs1:=((k1.le b (rX hg)).2 g1).1
    obtain ⟨r1,r2⟩:=s1.ab6 hs1
    have:=fresh _ _ _ r1 (by rw [dZ];exact hlen) (k1.trans r2 (by omega)) p s' q4 rfl
    simpa using this
  split at h
  ·rename_i c hg
   simp only [Option.some.injEq,Prod.mk.injEq] at h
   obtain ⟨rfl,rfl,rfl,rfl⟩:=h
   obtain ⟨k1,k2,_⟩:=VL.uU s hx hg
   exact main c true H ι _ hg s rfl (.refl _ _ _ _ _ (Nat.le_refl _)) hg (Mt k1 k2) (λc' t hc=>Mv (by simpa using hc) k1 k2) rfl
  ·rename_i c hg
   split at h
   case h_2=>cases h
   split at h
   case h_2=>cases h
   rename_i p hp
   split at h
   case h_2=>cases h
   rename_i hb
   simp only [Option.some.injEq,Prod.mk.injEq] at h
   obtain ⟨rfl,rfl,rfl,rfl⟩:=h
   obtain ⟨k1,k2,_⟩:=VL.uU s hx hg
   obtain ⟨k3,k4⟩:=k2 rfl
   obtain ⟨u1,u2⟩:=s.ac1 p.2 (vC (λv p=>tZ 5 true v p) _ _ hp)
   refine main c false (Fx H p.2) (ι.yN p.2) _ hg u1 (tY _ _) u2 ?_ (by rw [Mx _ _ hp,k4]) (λc' t hc=>?_) rfl
   ·rw [Ei,hb]
    exact hg
   ·simp only [Bool.false_eq_true,if_false] at hc
    have:=WL s hp hc
    rw [List.drop_zero,k4,hc.length,List.take_left' rfl]
    exact this
  ·cases h
 ·cases h
end Go.Proofs.YtohoggieaanllaaGreat
end
section
set_option linter.all false
set_option linter.unusedSimpArgs false
namespace Go.Proofs.YtohoggieaanllaaGreat
theorem MF:∀ {p:List Nat} {b k:Nat},y7 p b=some k→p[k]?=some b
 | [],b,k,h=>by simp [y7] at h
 | a::r,b,k,h=>by
  simp only [y7] at h
  split at h
  ·rename_i e
   obtain rfl:=Option.some.inj h
   simp [Nat.eq_of_beq_eq_true e]
  ·split at h
   ·rename_i k' hk
    obtain rfl:=Option.some.inj h
    simpa using MF hk
   ·cases h
theorem Od:∀ {p:List Nat} {b:Nat},y7 p b=none→b ∉ p
 | [],b,_=>by simp
 | a::r,b,h=>by
  simp only [y7] at h
  split at h
  ·cases h
  ·rename_i e
   split at h
   ·cases h
   ·rename_i hr
    simp only [List.mem_cons,not_or]
    exact ⟨λe'=>by subst e';simp at e,Od hr⟩
theorem CK:∀ {p:List Nat} (hp:p.Nodup) {b k:Nat} (h:p[k]?=some b),y7 p b=some k
 | [],_,b,k,h=>by simp at h
 | a::r,hp,b,0,h=>by
  simp only [List.getElem?_cons_zero,Option.some.injEq] at h
  subst h
  simp [y7]
 | a::r,hp,b,k+1,h=>by
  simp only [List.getElem?_cons_succ] at h
  rw [List.nodup_cons] at hp
  have hne:a≠b:=λe=>hp.1 (e ▸ List.mem_of_getElem? h)
  have:Nat.beq a b=false:=by
   cases hh:Nat.beq a b with
   | false=>rfl
   | true=>exact absurd (Nat.eq_of_beq_eq_true hh) hne
  simp only [y7,this,CK hp.2 h]
def Via (f:Nat→Option Nat) (κ uH:VI):Prop:=∀ b k,f b=some k→(∀ j,κ b=some j→uH k=some j)∧(κ.N8 b=true→uH.N8 k=true)∧(∀ d,κ.dim b=some d→uH.dim k=some d)
mutual
theorem VL.rn {M M':Heap} {O O':Nat→Prop} (hk:Keeps M O M' O') {f:Nat→Option Nat} {κ uH:VI} (hf:Via f κ uH):∀ (v a:AV),VL M O κ v a→VL M' O' uH (Proofs.YtohoggieaanllaaGreat.rn f v) a
 | .undef,_,_=>by simp [Proofs.YtohoggieaanllaaGreat.rn,VL]
 | .bool _,_,e=>by simpa [Proofs.YtohoggieaanllaaGreat.rn,VL] using e
 | .int _ _,_,e=>by simpa [Proofs.YtohoggieaanllaaGreat.rn,VL] using e
 | .str _,_,e=>by simpa [Proofs.YtohoggieaanllaaGreat.rn,VL] using e
 | .ptr none,_,e=>by simpa [Proofs.YtohoggieaanllaaGreat.rn,VL] using e
 | .ptr (some q),a,e=>by
  simp only [VL] at e
  obtain ⟨j,h1,rfl⟩:=e
  simp only [Proofs.YtohoggieaanllaaGreat.rn]
  split
  ·rename_i b hb
   simp only [VL]
   exact ⟨j,(hf _ _ hb).1 j h1,rfl⟩
  ·simp [VL]
 | .slice none _ _ _ _,_,e=>by simpa [Proofs.YtohoggieaanllaaGreat.rn,VL] using e
 | .slice (some _) _ _ _ _,_,e=>by simp [VL] at e
 | .map none,_,e=>by simpa [Proofs.YtohoggieaanllaaGreat.rn,VL] using e
 | .map (some r),a,e=>by
  simp only [VL] at e
  obtain ⟨j,h1,rfl⟩:=e
  simp only [Proofs.YtohoggieaanllaaGreat.rn]
  split
  ·rename_i b hb
   simp only [VL]
   exact ⟨j,(hf _ _ hb).1 j h1,rfl⟩
  ·simp [VL]
 | .func g cs,a,e=>by
  simp only [VL,Proofs.YtohoggieaanllaaGreat.rn] at e ⊢
  obtain ⟨cs',rfl,h⟩:=e
  exact ⟨cs',rfl,bM.rn hk hf cs cs' h⟩
 | .nilFunc,_,e=>by simpa [Proofs.YtohoggieaanllaaGreat.rn,VL] using e
 | .agg cs,a,e=>by
  simp only [VL,Proofs.YtohoggieaanllaaGreat.rn] at e ⊢
  obtain ⟨cs',rfl,h⟩:=e
  exact ⟨cs',rfl,bM.rn hk hf cs cs' h⟩
 | .tuple cs,a,e=>by
  simp only [VL,Proofs.YtohoggieaanllaaGreat.rn] at e ⊢
  obtain ⟨cs',rfl,h⟩:=e
  exact ⟨cs',rfl,bM.rn hk hf cs cs' h⟩
 | .list sz n cs ex,a,e=>by
  simp only [Proofs.YtohoggieaanllaaGreat.rn]
  exact VL.mono hk κ uH _ _ (λi hi=>by simp [yZ] at hi) e
 | .elem cs,a,e=>by
  simp only [Proofs.YtohoggieaanllaaGreat.rn]
  exact VL.mono hk κ uH _ _ (λi hi=>by simp [yZ] at hi) e
 | .acc b o sz n w,a,e=>by
  simp only [Proofs.YtohoggieaanllaaGreat.rn]
  split
  ·rename_i b' hb
   simp only [VL] at e ⊢
   obtain ⟨p,s',cap,ex,h1,h2,h3,h4,m,L,h5,h6,h7,h8⟩:=e
   obtain ⟨f1,f2,f3⟩:=hf _ _ hb
   exact ⟨p,s',cap,ex,h1,h2,h3,h4,m,L,f3 _ h5,h6,h7,h8.imp (λ⟨j,k1,k2⟩=>⟨j,f1 j k1,k2⟩) (λ⟨k1,k2⟩=>⟨f2 k1,k2⟩)⟩
  ·simp [VL]
theorem bM.rn {M M':Heap} {O O':Nat→Prop} (hk:Keeps M O M' O') {f:Nat→Option Nat} {κ uH:VI} (hf:Via f κ uH):∀ (l r:List AV),bM M O κ l r→bM M' O' uH (XP f l) r
 | [],[],_=>by simp [XP,bM]
 | v::l,a::r,e=>by
  simp only [bM,XP] at e ⊢
  exact ⟨VL.rn hk hf v a e.1,bM.rn hk hf l r e.2⟩
 | [],_::_,e=>by simp [bM] at e
 | _::_,[],e=>by simp [bM] at e
end
theorem acd {f:Nat→Option Nat}:∀ (l:List AV),(XP f l).length=l.length
 | []=>rfl
 | _::l=>by simp [XP,acd l]
theorem BL.rn {M M':Heap} {O O':Nat→Prop} (hk:Keeps M O M' O') {f:Nat→Option Nat} {κ uH:VI} (hf:Via f κ uH) {d:Option (Nat×Nat)} {x:kN} {y:Option kN} (r:BL M O κ d x y):BL M' O' uH d (rnB f x) y:=by
 cases x with
 | cells c ro sl =>
  obtain ⟨c',t,ro',sl',L,rfl,h0,h1,h2,h3,h4⟩:=r
  cases sl with
  | true=>exact ⟨c',t,ro',sl',L,rfl,h0,h1,h2,bM.mono hk _ _ c c' (.refl _ _) h3,h4⟩
  | false=>exact ⟨c',t,ro',sl',L,rfl,h0,by rw [acd];exact h1,h2,bM.rn hk hf c c' h3,h4⟩
 | map es=>exact r.elim
theorem WM (f:Nat→Option Nat) (x:kN):(rnB f x).ro=x.ro:=by
 cases x with
 | cells c ro sl=>cases sl<;>rfl
 | map es=>rfl
mutual
theorem VL.retag {M:Heap} {O:Nat→Prop} {κ:VI} (v t a:AV) (h:VL M O κ v a):VL M O κ (Proofs.YtohoggieaanllaaGreat.retag v t) a:=by
 rw [Proofs.YtohoggieaanllaaGreat.retag.eq_def]
 split
 ·split
  ·simp only [VL] at h ⊢
   exact h
  ·exact h
 ·split
  ·simp only [VL] at h ⊢
   obtain ⟨cs',rfl,h⟩:=h
   exact ⟨cs',rfl,bM.retag _ _ _ h⟩
  ·exact h
 ·split
  ·simp only [VL] at h ⊢
   obtain ⟨cs',rfl,h⟩:=h
   exact ⟨cs',rfl,bM.retag _ _ _ h⟩
  ·exact h
 ·exact h
termination_by SizeOf.sizeOf v
theorem bM.retag {M:Heap} {O:Nat→Prop} {κ:VI} (l ts r:List AV) (h:bM M O κ l r):bM M O κ (pR l ts) r:=by
 rw [pR.eq_def]
 split
 ·split
  ·cases r with
   | nil=>simp [bM] at h
   | cons a r =>
    simp only [bM] at h ⊢
    exact ⟨VL.retag _ _ _ h.1,bM.retag _ _ _ h.2⟩
  ·exact h
 ·exact h
termination_by SizeOf.sizeOf l
end
theorem Bc {H:WH} {p:List Nat}:∀ (q:List Nat),(vY H p q).length=q.length
 | []=>rfl
 | _::q=>by simp [vY,Bc q]
theorem oh {H:WH} {p:List Nat}:∀ (q:List Nat) (k:Nat),dh (vY H p q) k=match q[k]? with
  | some b=>rnO (y7 p) (dh H b)
  | none=>none
 | [],k=>by simp [vY,dh]
 | b::q,0=>by simp [vY,dh]
 | b::q,k+1=>by simp [vY,dh,oh q k]
theorem wh {f:Nat→Option Nat} {x:Option kN} {y:kN} (h:rnO f x=some y):∃ z,x=some z∧y=rnB f z:=by
 cases x with
 | none=>simp [rnO] at h
 | some z=>simp only [rnO,Option.some.injEq] at h;exact ⟨z,rfl,h.symm⟩
def iw (ι:VI) (p:List Nat):VI:=⟨λk=>match p[k]? with
  | some b=>ι b
  | none=>none,λk=>match p[k]? with
  | some b=>ι.N8 b
  | none=>false,λk=>match p[k]? with
  | some b=>ι.gone b
  | none=>true,λk=>match p[k]? with
  | some b=>ι.dim b
  | none=>none⟩
theorem Ej {ι:VI} {p:List Nat}:Via (y7 p) ι (iw ι p):=λb k h=>by
 have:=MF h
 simp only [iw,this]
 exact ⟨λ_ h=>h,λh=>h,λ_ h=>h⟩
theorem Bd {ι:VI} {p:List Nat} {j:Nat} (h:own (iw ι p) j):∃ b,b∈p∧ι b=some j∧ι.gone b=false:=by
 obtain ⟨k,h1,h2⟩:=h
 simp only [iw] at h1 h2
 cases e:p[k]? with
 | none=>rw [e] at h1;cases h1
 | some b =>
  rw [e] at h1 h2
  exact ⟨b,List.mem_of_getElem? e,h1,h2⟩
theorem VS.pick {R R':Nat→Prop} {ι:VI} {H:WH} {M:Heap} (s:VS R ι H M) {p:List Nat} (hp:p.Nodup) (hR:∀ j,R' j→j < M.next∧∀ b,b∈p→act ι H b→ι b≠some j) (hO:∀ j,OR R' (iw ι p) j→OR R ι j) :
  VS R' (iw ι p) (vY H p p) M:=by
 have hk:Keeps M (OR R ι) M (OR R' (iw ι p)):=⟨Nat.le_refl _,λb _ h=>⟨rfl,λk=>h (hO b k)⟩⟩
 have ac:∀ k,act (iw ι p) (vY H p p) k→∃ b,p[k]?=some b∧act ι H b:=λk h=>by
  cases e:p[k]? with
  | none =>
   rcases h with ⟨x,h⟩ | h
   ·rw [oh,e] at h;cases h
   ·simp only [iw,e] at h;cases h
  | some b =>
   refine ⟨b,rfl, ?_⟩
   rcases h with ⟨x,h⟩ | h
   ·rw [oh,e] at h
    obtain ⟨z,hz,_⟩:=wh h
    exact .inl ⟨z,hz⟩
   ·simp only [iw,e] at h
    exact .inr h
 have at':∀ {k b},p[k]?=some b→(iw ι p) k=ι b∧(iw ι p).N8 k=ι.N8 b∧(iw ι p).gone k=ι.gone b∧(iw ι p).dim k=ι.dim b:=λe=>by simp [iw,e]
 refine ⟨λk j h=>?_,λk k' j h h' e e' g=>?_,λk x hx=>?_,λk h=>?_,λk hk' c sl h=>?_,s.Z5,λj h=>⟨(hR j h).1,λk hk'=>?_⟩⟩
 ·cases e:p[k]? with
  | none=>simp only [iw,e] at h;cases h
  | some b =>
   rw [(at' e).1] at h
   exact ⟨by rw [Bc];exact (List.getElem?_eq_some_iff.1 e).1,(s.lt b j h).2⟩
 ·obtain ⟨b,q1,q2⟩:=ac k h
  obtain ⟨b',q1',q2'⟩:=ac k' h'
  rw [(at' q1).1] at e
  rw [(at' q1').1] at e'
  rw [(at' q1).2.2.1,(at' q1').2.2.1] at g
  have:=s.inj b b' j q2 q2' e e' g
  subst this
  have:=CK hp q1
  rw [CK hp q1'] at this
  exact (Option.some.inj this).symm
 ·cases e:p[k]? with
  | none=>rw [oh,e] at hx;cases hx
  | some b =>
   rw [oh,e] at hx
   obtain ⟨z,hz,rfl⟩:=wh hx
   rw [(at' e).1,(at' e).2.1,(at' e).2.2.1,(at' e).2.2.2,WM]
   rcases s.blk b z hz with ⟨h1,h2,ro,rfl⟩ | ⟨j,h1,h2,h3⟩
   ·exact .inl ⟨h1,h2,ro,rfl⟩
   ·exact .inr ⟨j,h1,BL.rn hk Ej h2,h3⟩
 ·cases e:p[k]? with
  | none=>simp only [iw,e] at h;cases h
  | some b =>
   rw [(at' e).2.1] at h
   rw [(at' e).1]
   exact ⟨by rw [Bc];exact (List.getElem?_eq_some_iff.1 e).1,(s.y9 b h).2⟩
 ·cases e:p[k]? with
  | none=>rw [oh,e] at h;cases h
  | some b =>
   rw [(at' e).2.2.1] at hk'
   rw [oh,e] at h
   obtain ⟨z,hz,h2⟩:=wh h
   have hr:=WM (y7 p) z
   rw [← h2] at hr
   cases z with
   | cells c' ro sl' =>
    simp only [kN.ro] at hr
    subst hr
    exact s.yN b hk' c' sl' hz
   | map es=>cases h2
 ·obtain ⟨b,q1,q2⟩:=ac k hk'
  rw [(at' q1).1]
  exact (hR j h).2 b (List.mem_of_getElem? q1) q2
theorem JH {H:WH} {np:Nat}:∀ (l seen:List Nat),(GR H np seen l).Nodup∧∀ x,x∈GR H np seen l→x∈l∧rV seen x=false∧(x < np∨∃ y,dh H x=some y)
 | [],seen=>by simp [GR]
 | a::r,seen=>by
  simp only [GR]
  cases h:rV seen a with
  | true =>
   obtain ⟨h1,h2⟩:=JH r seen
   exact ⟨h1,λx hx=>⟨List.mem_cons_of_mem _ (h2 x hx).1,(h2 x hx).2⟩⟩
  | false =>
   obtain ⟨h1,h2⟩:=JH (H:=H) (np:=np) r (a::seen)
   have hne:∀ x,x∈GR H np (a::seen) r→x≠a∧rV seen x=false:=λx hx=>by
    have:=(h2 x hx).2.1
    simp only [rV] at this
    split at this
    ·cases this
    ·rename_i e
     exact ⟨λe'=>by subst e';simp at e,this⟩
   have akV:(x:Nat)→x∈GR H np (a::seen) r→x∈a::r∧rV seen x=false∧(x < np∨∃ y,dh H x=some y):=λx hx =>
    ⟨List.mem_cons_of_mem _ (h2 x hx).1,(hne x hx).2,(h2 x hx).2.2⟩
   have both:(a < np∨∃ y,dh H a=some y)→(a::GR H np (a::seen) r).Nodup∧∀ x,x∈a::GR H np (a::seen) r→x∈a::r∧rV seen x=false∧(x < np∨∃ y,dh H x=some y):=λha =>
    ⟨List.nodup_cons.2 ⟨λhm=>(hne a hm).1 rfl,h1⟩,λx hx=>by
     rcases List.mem_cons.1 hx with rfl | hx
     ·exact ⟨List.mem_cons_self,h,ha⟩
     ·exact akV x hx⟩
   simp only
   split
   ·rename_i hb
    exact both (.inl (by simpa [Nat.blt_eq] using hb))
   ·split
    ·rename_i y hy
     exact both (.inr ⟨y,hy⟩)
    ·exact ⟨h1,akV⟩
theorem ac2 {a b:Nat} {l:List Nat} (h:a≠b):rV (a::l) b=rV l b:=by
 have:Nat.beq a b=false:=by
  cases hh:Nat.beq a b with
  | false=>rfl
  | true=>exact absurd (Nat.eq_of_beq_eq_true hh) h
 simp [rV,this]
theorem Yq {H:WH} {np:Nat}:∀ (l seen r:List Nat),l.Nodup→(∀ x,x∈l→x < np∧rV seen x=false)→∃ r',GR H np seen (l++r)=l++r'
 | [],seen,r,_,_=>⟨GR H np seen r,rfl⟩
 | a::l,seen,r,hn,h=>by
  rw [List.nodup_cons] at hn
  obtain ⟨h1,h2⟩:=h a (by simp)
  obtain ⟨r',hr⟩:=Yq (H:=H) (np:=np) l (a::seen) r hn.2 (λx hx=>⟨(h x (by simp [hx])).1,by
   have hne:a≠x:=λe=>hn.1 (by rw [e];exact hx)
   rw [ac2 hne]
   exact (h x (by simp [hx])).2⟩)
  refine ⟨r', ?_⟩
  simp only [List.cons_append,GR,h2]
  rw [show Nat.blt a np=true by simpa [Nat.blt_eq] using h1]
  simp only [hr]
theorem WO (H:WH) (np:Nat) (roots:List Nat):(N7 H np roots).Nodup∧(∀ x,x∈N7 H np roots→x < np∨∃ y,dh H x=some y)∧∃ r,N7 H np roots=List.range np++r:=by
 have pre:∀ r,∃ r',GR H np [] (List.range np++r)=List.range np++r':=λr =>
  Yq _ [] r List.nodup_range (λx hx=>⟨List.mem_range.1 hx,rfl⟩)
 have step:∀ l,(∃ r,l=List.range np++r)→∃ r,aex H np l=List.range np++r:=λl ⟨r,h⟩=>by
  subst h
  unfold aex
  rw [List.append_assoc]
  exact pre _
 refine ⟨(JH _ _).1,λx hx=>((JH _ _).2 x hx).2.2, ?_⟩
 exact step _ (step _ (step _ (pre _)))
theorem aiq {H:WH} {np i:Nat} {roots:List Nat} (h:i < np):(N7 H np roots)[i]?=some i:=by
 obtain ⟨_,_,r,hr⟩:=WO H np roots
 rw [hr,List.getElem?_append_left (by simpa using h)]
 simp [h]
theorem akW {R:Nat→Prop} {ι:VI} {H:WH} {M:Heap} (s:VS R ι H M) {np:Nat} (hn:np≤H.length) (roots:List Nat) {vs as:List AV} (hv:bM M (OR R ι) ι vs as) :
  ∃ bF,VS R bF (vY H (N7 H np roots) (N7 H np roots)) M∧Stp np [] ι H M bF (vY H (N7 H np roots) (N7 H np roots)) M∧bM M (OR R bF) bF (XP (y7 (N7 H np roots)) vs) as:=by
 obtain ⟨h1,h2,r,hr⟩:=WO H np roots
 have hlow:∀ i,i < np→(N7 H np roots)[i]?=some i:=λi=>aiq
 generalize N7 H np roots=p at *
 have hsub:∀ j,OR R (iw ι p) j→OR R ι j:=λj h=>h.imp (λh=>by
  obtain ⟨b,_,h3,h4⟩:=Bd h
  exact ⟨b,h3,h4⟩) id
 have hs:=s.pick h1 (R':=R) (λj h=>⟨(s.res j h).1,λb _ hb=>(s.res j h).2 b hb⟩) hsub
 have hko:Keeps M (own ι) M (own (iw ι p)):=⟨Nat.le_refl _,λb _ h=>⟨rfl,λk=>h (by obtain ⟨b',_,h3,h4⟩:=Bd k;exact ⟨b',h3,h4⟩)⟩⟩
 refine ⟨_,hs,⟨hko,λi hi=>?_,λi hi h=>?_,λi hi=>by simp only [iw,hlow i hi],λi hi=>by simp only [iw,hlow i hi],λi hi _=>by simp only [iw,hlow i hi],λi hi h=>?_,λ_ _ _ _ _ _=>rfl, ?_⟩, ?_⟩
 ·have:=hlow i hi
  simp only [iw,this]
  exact ⟨λ_ h=>⟨h,λ_ h=>h⟩,λh=>⟨h,λ_ h=>h⟩⟩
 ·simp only [iw,hlow i hi]
  exact h
 ·obtain ⟨x,h⟩:=h
  rw [oh,hlow i hi] at h
  obtain ⟨z,hz,_⟩:=wh h
  exact ⟨z,hz⟩
 ·rw [Bc,hr]
  simp
 ·exact bM.rn ⟨Nat.le_refl _,λb _ h=>⟨rfl,λk=>h (hsub b k)⟩⟩ Ej _ _ hv
theorem Oe {R:Nat→Prop} {ι:VI} {H:WH} {M:Heap} (s:VS R ι H M) {np:Nat} (hn:np≤H.length) {ms bs:List (Option Bool)} {ts vs as:List AV} (hv:bM M (OR R ι) ι vs as) {k:List AV→WH→Prop} (h:RF np ms bs ts vs H k) :
  ∃ vs' blks bF,k vs' blks∧VS R bF blks M∧Stp np [] ι H M bF blks M∧bM M (OR R bF) bF vs' as:=by
 unfold RF at h
 obtain ⟨lu,h1,h2,h3⟩:=Q9 ms (pR vs ts) H ι M as s (bM.retag _ _ _ hv)
 generalize hr:Mj ms (pR vs ts) H=r at *
 obtain ⟨vs1,H1⟩:=r
 simp only at h h1 h2 h3
 obtain ⟨yu,k1,k2⟩:=ME bs none (N7 H1 np (mX vs1)) H1 lu M h1
 have k3:=bM.step h1 k2 h3
 obtain ⟨ι3,q1,q2,q3⟩:=akW k1 (Nat.le_trans hn (Nat.le_trans h2.next k2.next)) (mX vs1) k3
 refine ⟨_,_,ι3,h,q1, ?_,q3⟩
 have e1:Stp np [] ι H M lu H1 M:=h2.weak hn
 have e2:Stp np [] lu H1 M yu _ M:=k2.weak (Nat.le_trans hn h2.next)
 have:=(e1.trans e2 (Nat.le_refl _)).trans q2 (Nat.le_refl _)
 simpa using this
end Go.Proofs.YtohoggieaanllaaGreat
end
section
set_option linter.all false
set_option linter.unusedSimpArgs false
namespace Go.Proofs.YtohoggieaanllaaGreat
theorem K6 {f:Nat→Option Nat}:∀ (p:List Nat) (out H:WH),(yw f p out H).length=H.length
 | [],out,H=>by simp [yw]
 | b::p,[],H=>by simp [yw]
 | b::p,x::out,H=>by simp [yw,K6 p,dZ]
theorem HV {f:Nat→Option Nat}:∀ (p:List Nat) (out H:WH) (i:Nat),i ∉ p→dh (yw f p out H) i=dh H i
 | [],out,H,i,_=>by simp [yw]
 | b::p,[],H,i,_=>by simp [yw]
 | b::p,x::out,H,i,h=>by
  simp only [List.mem_cons,not_or] at h
  simp only [yw]
  rw [HV p out _ i h.2,o_,if_neg (λe=>h.1 e.1)]
theorem RN {f:Nat→Option Nat}:∀ (p:List Nat) (out H:WH) (k b:Nat),p.Nodup→p.length≤out.length→p[k]?=some b→b < H.length→dh (yw f p out H) b=rnO f (dh out k)
 | [],out,H,k,b,_,_,h,_=>by simp at h
 | a::p,[],H,k,b,_,hl,_,_=>by simp at hl
 | a::p,x::out,H,0,b,hp,hl,h,hb=>by
  simp only [List.getElem?_cons_zero,Option.some.injEq] at h
  subst h
  rw [List.nodup_cons] at hp
  simp only [yw]
  rw [HV p out _ a hp.1,o_,if_pos ⟨rfl,hb⟩]
  rfl
 | a::p,x::out,H,k+1,b,hp,hl,h,hb=>by
  simp only [List.getElem?_cons_succ] at h
  rw [List.nodup_cons] at hp
  simp only [List.length_cons] at hl
  simp only [yw]
  rw [RN p out _ k b hp.2 (by omega) h (by rw [dZ];exact hb)]
  rfl
theorem Vp:∀ (out:WH) (n k:Nat),dh (out.drop n) k=dh out (n+k)
 | out,0,k=>by simp
 | [],n+1,k=>by simp [dh]
 | x::out,n+1,k=>by
  rw [List.drop_succ_cons,Vp out n k,Nat.add_right_comm]
  rfl
theorem Yr {f:Nat→Option Nat}:∀ (out:WH) (k:Nat),dh (out.map (rnO f)) k=rnO f (dh out k)
 | [],k=>by simp [dh,rnO]
 | x::out,0=>by simp [dh]
 | x::out,k+1=>by simp [dh,Yr out k]
def cls (n0:Nat) (p:List Nat) (i:Nat):Nat⊕Nat:=match y7 p i with
 | some k=>.inl k
 | none=>if i < n0 then .inr i else .inl (p.length+(i - n0))
def sS (ι El:VI) (n0:Nat) (p:List Nat):VI:=⟨λi=>match cls n0 p i with
  | .inl k=>El k
  | .inr i=>ι i,λi=>match cls n0 p i with
  | .inl k=>El.N8 k
  | .inr i=>ι.N8 i,λi=>match cls n0 p i with
  | .inl k=>El.gone k
  | .inr i=>ι.gone i,λi=>match cls n0 p i with
  | .inl k=>El.dim k
  | .inr i=>ι.dim i⟩
section
variable {R:Nat→Prop} {ι:VI} {H:WH} {M:Heap} (s:VS R ι H M) {p:List Nat} (hp:p.Nodup) (hl:∀ b,b∈p→b < H.length) {out:WH} (ho:p.length≤out.length)
include hp hl
theorem JI {i k:Nat} (h:p[k]?=some i):cls H.length p i=.inl k:=by simp [cls,CK hp h]
theorem JJ {i k:Nat} (h:cls H.length p i=.inl k):(p[k]?=some i∧i < H.length)∨(i ∉ p∧H.length≤i∧k=p.length+(i - H.length)):=by
 unfold cls at h
 cases e:y7 p i with
 | some k' =>
  rw [e] at h
  simp only [Sum.inl.injEq] at h
  subst h
  have:=MF e
  exact .inl ⟨this,hl i (List.mem_of_getElem? this)⟩
 | none =>
  rw [e] at h
  simp only at h
  split at h
  ·cases h
  ·simp only [Sum.inl.injEq] at h
   exact .inr ⟨Od e,by omega,h.symm⟩
theorem yO {i i':Nat} (h:cls H.length p i=.inr i'):i'=i∧i ∉ p∧i < H.length:=by
 unfold cls at h
 cases e:y7 p i with
 | some k'=>rw [e] at h;cases h
 | none =>
  rw [e] at h
  simp only at h
  split at h
  ·simp only [Sum.inr.injEq] at h
   exact ⟨h.symm,Od e,by assumption⟩
  ·cases h
theorem air {i i' k:Nat} (h:cls H.length p i=.inl k) (h':cls H.length p i'=.inl k):i=i':=by
 rcases JJ hp hl h with ⟨h1,_⟩ | ⟨_,h2,h3⟩<;>rcases JJ hp hl h' with ⟨h1',_⟩ | ⟨_,h2',h3'⟩
 ·rw [h1] at h1'
  exact Option.some.inj h1'
 ·have:=(List.getElem?_eq_some_iff.1 h1).1
  omega
 ·have:=(List.getElem?_eq_some_iff.1 h1').1
  omega
 ·omega
theorem aeG {k i:Nat} (h:back p H.length k=some i):cls H.length p i=.inl k:=by
 unfold back at h
 cases e:p[k]? with
 | some b =>
  rw [e] at h
  obtain rfl:=Option.some.inj h
  exact JI hp hl e
 | none =>
  rw [e] at h
  simp only [Option.some.injEq] at h
  have hk:p.length≤k:=by
   rw [List.getElem?_eq_none_iff] at e
   exact e
  unfold cls
  have hn:y7 p i=none:=by
   cases e':y7 p i with
   | none=>rfl
   | some k' =>
    have:=hl i (List.mem_of_getElem? (MF e'))
    omega
  rw [hn]
  simp only
  rw [if_neg (by omega)]
  congr 1
  omega
include ho
theorem ac3 (i:Nat):dh (Mi H p out) i=match cls H.length p i with
  | .inl k=>rnO (back p H.length) (dh out k)
  | .inr i=>dh H i:=by
 unfold Mi
 rw [Mr,K6]
 cases h:cls H.length p i with
 | inl k =>
  rcases JJ hp hl h with ⟨h1,h2⟩ | ⟨_,h2,rfl⟩
  ·rw [if_pos h2]
   simp only
   exact RN p out H k i hp ho h1 h2
  ·rw [if_neg (by omega)]
   simp only
   rw [Yr,Vp]
 | inr i' =>
  obtain ⟨rfl,h2,h3⟩:=yO hp hl h
  rw [if_pos h3]
  exact HV p out H _ h2
theorem ac4:(Mi H p out).length=H.length+(out.length - p.length):=by
 unfold Mi
 simp [K6]
theorem ais {R':Nat→Prop} (hR':∀ j,R' j↔R j∨(own ι j∧¬ own (iw ι p) j)) {El:VI} {M':Heap} {blks:WH} (s:VS R ι H M) (sc:VS R' El out M') (kc:Stp p.length (List.range p.length) (iw ι p) blks M El out M') (hpl:∀ b,b∈p→∃ x,dh H b=some x) (hbk:∀ k b,p[k]?=some b→(∃ x,dh blks k=some x)→∃ x,dh H b=some x) :
  VS R (sS ι El H.length p) (Mi H p out) M'∧Stp H.length p ι H M (sS ι El H.length p) (Mi H p out) M'∧∀ v a,VL M' (OR R' El) El v a→VL M' (OR R (sS ι El H.length p)) (sS ι El H.length p) (rn (back p H.length) v) a:=by
 have hinl:∀ {i k},cls H.length p i=.inl k→(sS ι El H.length p) i=El k∧(sS ι El H.length p).N8 i=El.N8 k∧(sS ι El H.length p).gone i=El.gone k∧(sS ι El H.length p).dim i=El.dim k:=λh=>by simp [sS,h]
 have hinr:∀ {i i'},cls H.length p i=.inr i'→(sS ι El H.length p) i=ι i∧(sS ι El H.length p).N8 i=ι.N8 i∧(sS ι El H.length p).gone i=ι.gone i∧(sS ι El H.length p).dim i=ι.dim i:=λh=>by
  obtain ⟨rfl,_⟩:=yO hp hl h
  simp [sS,h]
 have hget:=ac3 (out:=out) hp hl ho
 have hlen:=ac4 (out:=out) hp hl ho
 have hold:∀ {i},i ∉ p→i < H.length→cls H.length p i=.inr i:=λ{i} h1 h2=>by
  cases h:cls H.length p i with
  | inl k =>
   rcases JJ hp hl h with ⟨h3,_⟩ | ⟨_,h3,_⟩
   ·exact absurd (List.mem_of_getElem? h3) h1
   ·omega
  | inr i'=>rw [(yO hp hl h).1]
 have aci:∀ {i k},cls H.length p i=.inl k→act (sS ι El H.length p) (Mi H p out) i→act El out k:=λh ha=>by
  rcases ha with ⟨x,ha⟩ | ha
  ·rw [hget,h] at ha
   obtain ⟨z,hz,_⟩:=wh ha
   exact .inl ⟨z,hz⟩
  ·rw [(hinl h).2.2.1] at ha
   exact .inr ha
 have aco:∀ {i i'},cls H.length p i=.inr i'→act (sS ι El H.length p) (Mi H p out) i→act ι H i:=λh ha=>by
  rcases ha with ⟨x,ha⟩ | ha
  ·obtain ⟨rfl,_⟩:=yO hp hl h
   rw [hget,h] at ha
   exact .inl ⟨x,ha⟩
  ·rw [(hinr h).2.2.1] at ha
   exact .inr ha
 -- what is the caller's alone
 have ace:∀ {i j},i ∉ p→act ι H i→ι i=some j→¬ own (iw ι p) j:=λ{i j} h1 h2 h3 h4=>by
  obtain ⟨b,q1,q2,q3⟩:=Bd h4
  have:=s.inj b i j (.inr q3) h2 q2 h3 (.inl q3)
  subst this
  exact h1 q1
 have stays:∀ {i j},i ∉ p→act ι H i→ι i=some j→M'.get j=M.get j∧¬ own El j:=λ{i j} h1 h2 h3=>kc.keep.get j (s.lt i j h3).2 (ace h1 h2 h3)
 have sub:∀ j,own (iw ι p) j→own ι j:=λj h=>by
  obtain ⟨b,_,h3,h4⟩:=Bd h
  exact ⟨b,h3,h4⟩
 have amh:∀ j,own (sS ι El H.length p) j→own El j∨(∃ i,i ∉ p∧i < H.length∧ι i=some j∧ι.gone i=false):=λj ⟨i,h1,h2⟩=>by
  cases h:cls H.length p i with
  | inl k =>
   rw [(hinl h).1] at h1
   rw [(hinl h).2.2.1] at h2
   exact .inl ⟨k,h1,h2⟩
  | inr i' =>
   obtain ⟨rfl,q1,q2⟩:=yO hp hl h
   rw [(hinr h).1] at h1
   rw [(hinr h).2.2.1] at h2
   exact .inr ⟨i',q1,q2,h1,h2⟩
 have hOO:∀ j,OR R (sS ι El H.length p) j→OR R' El j:=λj h=>by
  rcases h with h | h
  ·rcases amh j h with h | ⟨i,q1,q2,q3,q4⟩
   ·exact .inl h
   ·exact .inr ((hR' j).2 (.inr ⟨⟨i,q3,q4⟩,ace q1 (.inr q4) q3⟩))
  ·exact .inr ((hR' j).2 (.inl h))
 have hkeep:Keeps M (own ι) M' (own (sS ι El H.length p)):=⟨kc.keep.next,λb hb h=>by
  obtain ⟨e1,e2⟩:=kc.keep.get b hb (λk=>h (sub b k))
  refine ⟨e1,λk=>?_⟩
  rcases amh b k with k | ⟨i,q1,q2,q3,q4⟩
  ·exact e2 k
  ·exact h ⟨i,q3,q4⟩⟩
 have hle:∀ S,VI.Le ι (sS ι El H.length p) S:=λS i _=>by
  by_cases hi:i∈p
  ·obtain ⟨k,hk⟩:=List.mem_iff_getElem?.1 hi
   have hc:=JI hp hl hk
   have hkl:=(List.getElem?_eq_some_iff.1 hk).1
   obtain ⟨e1,e2,e3,e4⟩:=hinl hc
   have:=kc.le k hkl
   simp only [iw,hk] at this
   rw [e1,e2,e4]
   exact this
  ·by_cases hlt:i < H.length
   ·obtain ⟨e1,e2,e3,e4⟩:=hinr (hold hi hlt)
    rw [e1,e2,e4]
    exact ⟨λ_ h=>⟨h,λ_ h=>h⟩,λh=>⟨h,λ_ h=>h⟩⟩
   ·exact ⟨λj h=>absurd (s.lt i j h).1 hlt,λh=>absurd (s.y9 i h).1 hlt⟩
 have ami:Via (back p H.length) El (sS ι El H.length p):=λk i h=>by
  obtain ⟨e1,e2,e3,e4⟩:=hinl (aeG hp hl h)
  rw [e1,e2,e4]
  exact ⟨λ_ h=>h,λh=>h,λ_ h=>h⟩
 have hkO:Keeps M' (OR R' El) M' (OR R (sS ι El H.length p)):=⟨Nat.le_refl _,λb _ h=>⟨rfl,λk=>h (hOO b k)⟩⟩
 refine ⟨⟨λi j h=>?_,λi i' j h h' e e' g=>?_,λi x hx=>?_,λi h=>?_,λi hi c sl h=>?_,sc.Z5,λj h=>⟨?_,λi hi=>?_⟩⟩,⟨hkeep,hle _,λi hi h=>?_,λi hi=>?_,λi hi=>?_,λi hi h=>?_,λi hi h=>?_,λi j hi h hj hn=>?_,by rw [hlen];omega⟩,λv a h=>VL.rn hkO ami v a h⟩
 ·rw [hlen]
  cases hc:cls H.length p i with
  | inl k =>
   rw [(hinl hc).1] at h
   obtain ⟨q1,q2⟩:=sc.lt k j h
   refine ⟨?_,q2⟩
   rcases JJ hp hl hc with ⟨_,h2⟩ | ⟨_,h2,rfl⟩<;>omega
  | inr i' =>
   rw [(hinr hc).1] at h
   obtain ⟨q1,q2⟩:=s.lt i j h
   exact ⟨by omega,Nat.lt_of_lt_of_le q2 kc.keep.next⟩
 ·cases hc:cls H.length p i with
  | inl k =>
   cases hc':cls H.length p i' with
   | inl k' =>
    rw [(hinl hc).1] at e
    rw [(hinl hc').1] at e'
    rw [(hinl hc).2.2.1,(hinl hc').2.2.1] at g
    have:=sc.inj k k' j (aci hc h) (aci hc' h') e e' g
    subst this
    exact air hp hl hc hc'
   | inr i2 =>
    exfalso
    obtain ⟨rfl,q1,q2⟩:=yO hp hl hc'
    have ha:=aco hc' h'
    rw [(hinl hc).1] at e
    rw [(hinr hc').1] at e'
    rw [(hinl hc).2.2.1,(hinr hc').2.2.1] at g
    rcases g with g | g
    ·exact (stays q1 ha e').2 ⟨k,e,g⟩
    ·exact (sc.res j ((hR' j).2 (.inr ⟨⟨i2,e',g⟩,ace q1 ha e'⟩))).2 k (aci hc h) e
  | inr i1 =>
   obtain ⟨rfl,q1,q2⟩:=yO hp hl hc
   have ha:=aco hc h
   rw [(hinr hc).1] at e
   cases hc':cls H.length p i' with
   | inl k' =>
    exfalso
    rw [(hinl hc').1] at e'
    rw [(hinr hc).2.2.1,(hinl hc').2.2.1] at g
    rcases g with g | g
    ·exact (sc.res j ((hR' j).2 (.inr ⟨⟨i1,e,g⟩,ace q1 ha e⟩))).2 k' (aci hc' h') e'
    ·exact (stays q1 ha e).2 ⟨k',e',g⟩
   | inr i2 =>
    obtain ⟨rfl,q1',q2'⟩:=yO hp hl hc'
    rw [(hinr hc').1] at e'
    rw [(hinr hc).2.2.1,(hinr hc').2.2.1] at g
    exact s.inj i1 i2 j ha (aco hc' h') e e' g
 ·cases hc:cls H.length p i with
  | inl k =>
   rw [hget,hc] at hx
   obtain ⟨z,hz,rfl⟩:=wh hx
   obtain ⟨e1,e2,e3,e4⟩:=hinl hc
   rw [e1,e2,e3,e4,WM]
   rcases sc.blk k z hz with ⟨h1,h2,ro,rfl⟩ | ⟨j,h1,h2,h3⟩
   ·exact .inl ⟨h1,h2,ro,rfl⟩
   ·exact .inr ⟨j,h1,BL.rn hkO ami h2,h3⟩
  | inr i' =>
   obtain ⟨rfl,q1,q2⟩:=yO hp hl hc
   rw [hget,hc] at hx
   obtain ⟨e1,e2,e3,e4⟩:=hinr hc
   rw [e1,e2,e3,e4]
   rcases s.blk i' x hx with h | ⟨j,h1,h2,h3⟩
   ·exact .inl h
   ·refine .inr ⟨j,h1, ?_,h3⟩
    rw [(stays q1 (.inl ⟨x,hx⟩) h1).1]
    exact h2.mono (hkeep.or R) hle (λ_ h=>h)
 ·rw [hlen]
  cases hc:cls H.length p i with
  | inl k =>
   rw [(hinl hc).2.1] at h
   rw [(hinl hc).1]
   obtain ⟨q1,q2⟩:=sc.y9 k h
   refine ⟨?_,q2⟩
   rcases JJ hp hl hc with ⟨_,h2⟩ | ⟨_,h2,rfl⟩<;>omega
  | inr i' =>
   rw [(hinr hc).2.1] at h
   rw [(hinr hc).1]
   obtain ⟨q1,q2⟩:=s.y9 i h
   exact ⟨by omega,q2⟩
 ·cases hc:cls H.length p i with
  | inl k =>
   rw [(hinl hc).2.2.1] at hi
   rw [hget,hc] at h
   obtain ⟨z,hz,h2⟩:=wh h
   have hr:=WM (back p H.length) z
   rw [← h2] at hr
   cases z with
   | cells c' ro sl' =>
    simp only [kN.ro] at hr
    subst hr
    exact sc.yN k hi c' sl' hz
   | map es=>cases h2
  | inr i' =>
   obtain ⟨rfl,q1,q2⟩:=yO hp hl hc
   rw [(hinr hc).2.2.1] at hi
   rw [hget,hc] at h
   exact s.yN i' hi c sl h
 ·exact Nat.lt_of_lt_of_le (s.res j h).1 kc.keep.next
 ·cases hc:cls H.length p i with
  | inl k =>
   rw [(hinl hc).1]
   exact (sc.res j ((hR' j).2 (.inl h))).2 k (aci hc hi)
  | inr i' =>
   rw [(hinr hc).1]
   exact (s.res j h).2 i (aco hc hi)
 ·by_cases hm:i∈p
  ·obtain ⟨k,hk⟩:=List.mem_iff_getElem?.1 hm
   rw [(hinl (JI hp hl hk)).2.2.1]
   refine kc.gone k (List.getElem?_eq_some_iff.1 hk).1 ?_
   simp only [iw,hk]
   exact h
  ·rw [(hinr (hold hm hi)).2.2.1]
   exact h
 ·by_cases hm:i∈p
  ·obtain ⟨k,hk⟩:=List.mem_iff_getElem?.1 hm
   rw [(hinl (JI hp hl hk)).1,kc.toq k (List.getElem?_eq_some_iff.1 hk).1]
   simp only [iw,hk]
  ·rw [(hinr (hold hm hi)).1]
 ·by_cases hm:i∈p
  ·obtain ⟨k,hk⟩:=List.mem_iff_getElem?.1 hm
   rw [(hinl (JI hp hl hk)).2.2.2,kc.aan k (List.getElem?_eq_some_iff.1 hk).1]
   simp only [iw,hk]
  ·rw [(hinr (hold hm hi)).2.2.2]
 ·by_cases hm:i∈p
  ·obtain ⟨x,hx⟩:=hpl i hm
   rw [h] at hx
   cases hx
  ·rw [(hinr (hold hm hi)).2.2.1]
 ·obtain ⟨x,h⟩:=h
  by_cases hm:i∈p
  ·obtain ⟨k,hk⟩:=List.mem_iff_getElem?.1 hm
   rw [hget,JI hp hl hk] at h
   obtain ⟨z,hz,_⟩:=wh h
   exact hbk k i hk (kc.live k (List.getElem?_eq_some_iff.1 hk).1 ⟨z,hz⟩)
  ·rw [hget,hold hm hi] at h
   exact ⟨x,h⟩
 ·exact (stays hn (aco (hold hn hi) h) hj).1
end
mutual
theorem Yt {M M':Heap} {O O':Nat→Prop} {κ uH:VI}:∀ (v a:AV),qK v=true→VL M O κ v a→VL M' O' uH v a
 | .bool _,a,_,h=>by simp only [VL] at h ⊢;exact h
 | .int ..,a,_,h=>by simp only [VL] at h ⊢;exact h
 | .str _,a,_,h=>by simp only [VL] at h ⊢;exact h
 | .ptr none,a,_,h=>by simp only [VL] at h ⊢;exact h
 | .nilFunc,a,_,h=>by simp only [VL] at h ⊢;exact h
 | .slice none s l c e,a,hs,h=>by simp only [VL] at h ⊢;exact h
 | .tuple cs,a,hs,h=>by
  simp only [qK] at hs
  simp only [VL] at h ⊢
  obtain ⟨cs',e,h⟩:=h
  exact ⟨cs',e,Og cs cs' hs h⟩
 | .agg cs,a,hs,h=>by
  simp only [qK] at hs
  simp only [VL] at h ⊢
  obtain ⟨cs',e,h⟩:=h
  exact ⟨cs',e,Og cs cs' hs h⟩
 | .undef,_,hs,_=>by simp [qK] at hs
 | .ptr (some _),_,hs,_=>by simp [qK] at hs
 | .slice (some _) _ _ _ _,_,hs,_=>by simp [qK] at hs
 | .map _,_,hs,_=>by simp [qK] at hs
 | .func _ _,_,hs,_=>by simp [qK] at hs
 | .list ..,_,hs,_=>by simp [qK] at hs
 | .elem _,_,hs,_=>by simp [qK] at hs
 | .acc ..,_,hs,_=>by simp [qK] at hs
theorem Og {M M':Heap} {O O':Nat→Prop} {κ uH:VI}:∀ (v a:List AV),Yj v=true→bM M O κ v a→bM M' O' uH v a
 | [],[],_,_=>by simp [bM]
 | [],_::_,_,h=>by simp [bM] at h
 | _::_,[],_,h=>by simp [bM] at h
 | v::r,a::l,hs,h=>by
  simp only [Yj] at hs
  split at hs
  case h_2=>cases hs
  rename_i hv
  simp only [bM] at h ⊢
  exact ⟨Yt v a hv h.1,Og r l hs h.2⟩
end
theorem VS.ext {R:Nat→Prop} {ι:VI} {H:WH} {M M':Heap} (s:VS R ι H M) (hn:M.next≤M'.next) (hg:∀ b,b < M.next→M'.get b=M.get b) (ok:M'.Ok):VS R ι H M'∧Stp H.length [] ι H M ι H M':=by
 have hk:Keeps M (own ι) M' (own ι):=⟨hn,λb hb ho=>⟨hg b hb,ho⟩⟩
 refine ⟨⟨λi j h=>⟨(s.lt i j h).1,Nat.lt_of_lt_of_le (s.lt i j h).2 hn⟩,s.inj,λi x hx=>?_,s.y9,s.yN,ok,λj h=>⟨Nat.lt_of_lt_of_le (s.res j h).1 hn,(s.res j h).2⟩⟩,⟨hk,.refl _ _,λ_ _ h=>h,λ_ _=>rfl,λ_ _=>rfl,λ_ _ _=>rfl,λ_ _ h=>h,λi j _ _ hj _=>?_,Nat.le_refl _⟩⟩
 ·rcases s.blk i x hx with h | ⟨j,h1,h2,h3⟩
  ·exact .inl h
  refine .inr ⟨j,h1, ?_,h3⟩
  rw [hg j (s.lt i j h1).2]
  exact h2.mono (hk.or R) (λ_=>.refl _ _) (λ_ h=>h)
 ·exact hg j (s.lt i j hj).2
theorem aeH {C:bJ} {g:FuncId} {args as:List AV} {R:Nat→Prop} {ι:VI} {H:WH} {M:Heap} (s:VS R ι H M) (hv:bM M (OR R ι) ι args as) {ms:List (Option Bool)} {ts:List AV} {v:AV}
  (h0:N7 (Mj ms (pR args ts) H).2 0 (mX (Mj ms (pR args ts) H).1)=[]) (hs:qK v=true) (hspec:Spec C g (XP (y7 []) (Mj ms (pR args ts) H).1) [] v []) :
  ∃ a M',C g as M=some (a,M')∧VS R ι H M'∧Stp H.length [] ι H M ι H M'∧VL M' (OR R ι) ι v a:=by
 obtain ⟨yu,k1,k2,k3⟩:=Q9 ms (pR args ts) H ι M as s (bM.retag _ _ _ hv)
 generalize Mj ms (pR args ts) H=q at *
 obtain ⟨vs,H2⟩:=q
 simp only at h0 hspec k1 k2 k3
 obtain ⟨p1,p2,_⟩:=WO H2 0 (mX vs)
 rw [h0] at p1 p2
 let R':Nat→Prop:=λj=>R j∨(own yu j∧¬ own (iw yu []) j)
 have hsub:∀ j,OR R' (iw yu []) j→OR R yu j:=λj h=>by
  rcases h with h | h | h
  ·obtain ⟨b,_,h3,h4⟩:=Bd h
   exact .inl ⟨b,h3,h4⟩
  ·exact .inr h
  ·exact .inl h.1
 have hpick:=k1.pick p1 (R':=R') (λj h=>by
  rcases h with h | ⟨⟨i,q1,q2⟩,q3⟩
  ·exact ⟨(k1.res j h).1,λb _ hb=>(k1.res j h).2 b hb⟩
  ·exact ⟨(k1.lt i j q1).2,λb hb=>(nomatch hb)⟩) hsub
 have hargs:bM M (OR R' (iw yu [])) (iw yu []) (XP (y7 []) vs) as:=bM.rn ⟨Nat.le_refl _,λb _ h=>⟨rfl,λk=>h (hsub b k)⟩⟩ (by have:=@Ej;rw [← h0];exact Ej) _ _ k3
 obtain ⟨a,M',El,e,q1,q2,q3⟩:=hspec R' (iw yu []) M as hpick hargs
 have hno:∀ b,¬ own (iw yu []) b:=λb h=>by
  obtain ⟨c,hc,_⟩:=Bd h
  exact (nomatch hc)
 obtain ⟨e1,e2⟩:=s.ext q2.keep.next (λb hb=>(q2.keep.get b hb (hno b)).1) q1.Z5
 exact ⟨a,M',e,e1,e2,Yt v a hs q3⟩
theorem aeI {C:bJ} {g:FuncId} {args as:List AV} {R:Nat→Prop} {ι:VI} {H:WH} {M:Heap} (s:VS R ι H M) (hv:bM M (OR R ι) ι args as) {tr:TS} {k:AV→WH→List Nat→TS→Prop} (h:aey C g args H tr k) :
  ∃ a M' bF v H' t jP,C g as M=some (a,M')∧VS R bF H' M'∧Stp H.length t ι H M bF H' M'∧VL M' (OR R bF) bF v a∧k v H' t jP:=by
 unfold aey at h
 split at h
 case h_2 =>
  rename_i ms ts v r
  simp only at h
  split at h
  case h_2=>exact h.elim
  rename_i e1 e2
  obtain ⟨jP,h⟩:=lC h
  obtain ⟨a,M',f1,f2,f3,f4⟩:=aeH s hv e1 e2 h.1
  exact ⟨a,M',ι,v,H,[],jP,f1,f2,f3,f4,h.2⟩
 case h_3=>exact h.elim
 rename_i ms m ts v out r
 obtain ⟨lu,h1,h2,h3⟩:=Q9 ms (pR args ts) H ι M as s (bM.retag _ _ _ hv)
 generalize hr:Mj ms (pR args ts) H=q at *
 obtain ⟨vs,H1⟩:=q
 simp only at h h1 h2 h3
 obtain ⟨yu,k1,k2⟩:=ME [] m (N7 H1 0 (mX vs)) H1 lu M h1
 have k3:=bM.step h1 k2 h3
 generalize Pv [] m (N7 H1 0 (mX vs)) H1=H2 at *
 obtain ⟨p1,p2,_⟩:=WO H2 0 (mX vs)
 generalize N7 H2 0 (mX vs)=p at *
 split at h
 case h_2=>exact h.elim
 rename_i ho
 have ho:=Nat.le_of_ble_eq_true ho
 obtain ⟨jP,hspec,hk⟩:=lC h
 have hl:∀ b,b∈p→b < H2.length:=λb hb=>by
  rcases p2 b hb with h | ⟨y,h⟩
  ·omega
  ·exact rX h
 let R':Nat→Prop:=λj=>R j∨(own yu j∧¬ own (iw yu p) j)
 have hsub:∀ j,OR R' (iw yu p) j→OR R yu j:=λj h=>by
  rcases h with h | h | h
  ·obtain ⟨b,_,h3,h4⟩:=Bd h
   exact .inl ⟨b,h3,h4⟩
  ·exact .inr h
  ·exact .inl h.1
 have hpick:=k1.pick p1 (R':=R') (λj h=>by
  rcases h with h | ⟨⟨i,q1,q2⟩,q3⟩
  ·exact ⟨(k1.res j h).1,λb _ hb=>(k1.res j h).2 b hb⟩
  ·refine ⟨(k1.lt i j q1).2,λb hb ha hj=>?_⟩
   have:=k1.inj i b j (.inr q2) ha q1 hj (.inl q2)
   subst this
   obtain ⟨k,hk⟩:=List.mem_iff_getElem?.1 hb
   exact q3 ⟨k,by simp only [iw,hk];exact hj,by simp only [iw,hk];exact q2⟩) hsub
 have hargs:bM M (OR R' (iw yu p)) (iw yu p) (XP (y7 p) vs) as:=bM.rn ⟨Nat.le_refl _,λb _ h=>⟨rfl,λk=>h (hsub b k)⟩⟩ Ej _ _ k3
 obtain ⟨a,M',El,e,q1,q2,q3⟩:=hspec R' (iw yu p) M as hpick hargs
 rw [Bc] at q2
 obtain ⟨u1,u2,u3⟩:=ais (R:=R) (R':=R') p1 hl ho (λj=>Iff.rfl) k1 q1 q2 (λb hb=>(p2 b hb).resolve_left (by omega)) (λk b hk ⟨x,hx⟩=>by
  rw [oh,hk] at hx
  obtain ⟨z,hz,_⟩:=wh hx
  exact ⟨z,hz⟩)
 refine ⟨a,M',_,_,_,_,_,e,u1, ?_,u3 v a q3,hk⟩
 have:=(h2.trans k2 h2.next).trans u2 (Nat.le_trans h2.next k2.next)
 simpa using this
end Go.Proofs.YtohoggieaanllaaGreat
end
section
set_option linter.all false
set_option linter.unusedSimpArgs false
namespace Go.Proofs.YtohoggieaanllaaGreat
def Z6 (C:bJ) (f:FuncId) (b:Bt):Prop:=∀ (R:Nat→Prop) (ι:VI) (H:WH) (M:Heap) (args as:List AV) (d:Option Nat) (tr:TS) (k:AV→WH→List Nat→TS→Prop),VS R ι H M→bM M (OR R ι) ι args as→wBt b d args H tr k →
 ∃ a M' bF v H' t jP,C f as M=some (a,M')∧VS R bF H' M'∧Stp H.length t ι H M bF H' M'∧VL M' (OR R bF) bF v a∧k v H' t jP
theorem WQ {R:Nat→Prop} {d:Option Nat} {x:Option AV} {tr:TS} {k:AV→TS→Prop} (h:ovr d x tr k):∃ v u jP,x=some v∧k u jP∧∀ (M:Heap) (O:Nat→Prop) (κ:VI) (a:AV),VL M O κ v a→VL M O κ u a:=by
 have plain:∀ {tr},(match x with | some v=>k v tr | none=>False)→∃ v u jP,x=some v∧k u jP∧∀ (M:Heap) (O:Nat→Prop) (κ:VI) (a:AV),VL M O κ v a→VL M O κ u a:=λ{tr} h=>by
  cases x with
  | none=>exact h.elim
  | some v=>exact ⟨v,v,tr,rfl,h,λ_ _ _ _ h=>h⟩
 unfold ovr at h
 split at h
 ·split at h
  ·obtain ⟨jP,h⟩:=lC h
   exact ⟨_,_,_,h.1,h.2,λ_ _ _ _ h=>h⟩
  ·exact plain h
 ·split at h
  ·split at h
   ·rename_i v
    exact ⟨v,_,_,rfl,h,λ_ _ _ _ h=>VL.retag _ _ _ h⟩
   ·exact h.elim
  ·exact plain h
 ·exact plain h
theorem Q_ {d:Option Nat} {n:Nat} {cs:List AV} {tr:TS} {k:Nat→List AV→TS→Prop} (h:acY d n cs tr k):∃ jP,k n cs jP:=by
 unfold acY at h
 split at h
 ·split at h
  ·obtain ⟨_,rfl,h⟩:=lC h
   obtain ⟨_,rfl,h⟩:=lC h
   exact ⟨_,h⟩
  ·exact ⟨_,h⟩
 ·exact ⟨_,h⟩
theorem Dp {M:Heap} {O:Nat→Prop} {κ:VI}:∀ {l r:List AV},l.all AV.flat=true→bM M O κ l r→bM M O VI.none l r
 | [],[],_,_=>by simp [bM]
 | v::l,a::r,h,e=>by
  simp only [List.all_cons,Bool.and_eq_true] at h
  simp only [bM] at e ⊢
  refine ⟨?_,Dp h.2 e.2⟩
  have h1:=h.1
  have e1:=e.1
  cases v with
  | ptr p=>cases p<;>simp_all [AV.flat,VL]
  | slice p=>cases p<;>simp_all [AV.flat,VL]
  | map p=>cases p<;>simp_all [AV.flat,VL]
  | func f cs =>
   cases cs with
   | nil =>
    simp only [VL] at e1 ⊢
    obtain ⟨cs',rfl,e1⟩:=e1
    refine ⟨cs',rfl, ?_⟩
    cases cs' with
    | nil=>simp [bM]
    | cons _ _=>simp [bM] at e1
   | cons _ _=>simp [AV.flat] at h1
  | _=>simp_all [AV.flat,VL]
 | [],_::_,_,e=>by simp [bM] at e
 | _::_,[],_,e=>by simp [bM] at e
theorem Bf (z:List AV):∀ n,(jf n z).length=n * z.length
 | 0=>by simp [jf]
 | n+1=>by simp only [jf,List.length_append,Bf z n,Nat.add_mul,Nat.one_mul];omega
section
variable {R:Nat→Prop} {ι:VI} {H:WH} {M:Heap} (s:VS R ι H M) {ρ σ:Nat→AV} (h:∀ t,VL M (OR R ι) ι (ρ t) (σ t))
include s h
theorem RO {sz:Nat}:∀ {ps:List (Nat×AX)} {cs cs' l:List AV},(ps.all λp=>p.2.bB)=true→bM M (OR R ι) ι cs cs' →
  qh cs (ps.map λp=>(p.1 * sz,sz,(p.2.sub ρ).ev []))=some l→∃ l',qh cs' (ps.map λp=>(p.1 * sz,sz,(p.2.sub σ).ev []))=some l'∧bM M (OR R ι) ι l l'
 | [],cs,cs',l,_,hr,hf=>by
  simp only [List.map_nil,qh,Option.some.injEq] at hf ⊢
  subst hf
  exact ⟨cs',rfl,hr⟩
 | p::ps,cs,cs',l,hc,hr,hf=>by
  simp only [List.all_cons,Bool.and_eq_true] at hc
  simp only [List.map_cons,qh] at hf ⊢
  split at hf
  case h_2=>cases hf
  rename_i x hx
  split at hf
  case isFalse=>cases hf
  rename_i hle
  obtain ⟨x',hx',hxr⟩:=(eX h hc.1).cells hx
  rw [hx']
  simp only
  rw [if_pos (by rw [← hxr.length,← hr.length];exact hle)]
  refine RO hc.2 ?_ hf
  exact ((hr.take _).append hxr).append (hr.drop _)
theorem akX {d:Option Nat} {o:GK} (hc:o.bB=true) {tr:TS} {k:kN→(Nat→AV)→TS→Prop} (hv:wK d (o.sub ρ) tr k) :
  ∃ c sl mk c' sl' mkA jP,k (.cells c false sl) mk jP∧aK (o.sub σ) []=some (.cells c' false sl',mkA)∧bM M (OR R ι) (if sl then VI.none else ι) c c'∧(sl=false→sl'=false) ∧
   ∀ (M':Heap) (O:Nat→Prop) (κ:VI) (b j:Nat),κ b=some j→κ.dim b=some (c.length,c'.length)→VL M' O κ (mk b) (mkA.val j):=by
 have acf:∀ (c c':List AV) (M':Heap) (O:Nat→Prop) (κ:VI) (b j:Nat),κ b=some j→κ.dim b=some (c.length,c'.length)→VL M' O κ (.ptr (some (b,0))) (Mk.ptr.val j):=λc c' M' O κ b j h1 _=>by
  simp only [Mk.val,VL]
  exact ⟨j,h1,rfl⟩
 have aeJ:∀ (c c':List AV) (sz n:Nat) (ex:Bool),c.length=n * sz→n * sz≤c'.length→∀ (M':Heap) (O:Nat→Prop) (κ:VI) (b j:Nat),κ b=some j→κ.dim b=some (c.length,c'.length)→VL M' O κ (.acc b 0 sz n true) ((Mk.slice sz n n ex).val j):=λc c' sz n ex h0 hL M' O κ b j h1 h2=>by
  simp only [Mk.val,VL]
  exact ⟨_,_,_,_,rfl,Nat.le_refl _,(λh=>by cases h),λ_=>rfl,_,_,h2,by omega,λ_=>⟨trivial,h0.symm⟩,.inl ⟨j,h1,.inl ⟨rfl,by omega⟩⟩⟩
 cases o with
 | alloc zero =>
  have hz:bM M (OR R ι) ι zero zero:=bM.const zero hc
  simp only [GK.sub,wK] at hv
  split at hv
  ·split at hv
   ·rename_i t r _
    exact ⟨_,false,_,zero,false,.ptr,_,hv,rfl,bM.retag _ _ _ hz,(λ_=>rfl),acf _ _⟩
   ·exact ⟨_,false,_,zero,false,.ptr,_,hv,rfl,hz,(λ_=>rfl),acf _ _⟩
  ·exact ⟨_,false,_,zero,false,.ptr,_,hv,rfl,hz,(λ_=>rfl),acf _ _⟩
 | box x =>
  have hx:=eX h hc
  simp only [GK.sub,wK] at hv
  split at hv
  case h_2=>exact hv.elim
  rename_i cs hcs
  obtain ⟨cs',h1,h2⟩:=hx.cells hcs
  exact ⟨cs,false,_,cs',false,.ptr,_,hv,by simp only [GK.sub,aK,h1,Option.map_some],h2,(λ_=>rfl),acf _ _⟩
 | buildSlice sz len zero parts =>
  simp only [GK.bB,Bool.and_eq_true] at hc
  simp only [GK.sub,wK,List.map_map] at hv
  split at hv
  case h_2=>exact hv.elim
  rename_i cs hcs
  split at hv
  case h_2=>exact hv.elim
  rename_i hz
  have hz:=Nat.eq_of_beq_eq_true hz
  obtain ⟨cs',h1,h2⟩:=RO s h hc.2 (bM.jf (M:=M) (O:=OR R ι) (κ:=ι) hc.1 len) hcs
  have hlen:∀ {l:List (Nat×Nat×AV)} {c c':List AV},qh c l=some c'→c'.length=c.length:=by
   intro l
   induction l with
   | nil=>intro c c' e;simp only [qh,Option.some.injEq] at e;rw [e]
   | cons q l ih =>
    intro c c' e
    simp only [qh] at e
    split at e
    case h_2=>cases e
    split at e
    case isFalse=>cases e
    rename_i hle
    rw [ih e]
    simp only [List.length_append,List.length_take,List.length_drop]
    omega
  have hl:=hlen hcs
  rw [Bf,hz] at hl
  refine ⟨cs,false,_,cs',false,.slice sz len len true,_,hv, ?_,h2,(λ_=>rfl),aeJ _ _ _ _ _ hl (by rw [← h2.length,hl];exact Nat.le_refl _)⟩
  simp only [GK.sub,aK,List.map_map]
  have e:(λp:Nat×AV=>(p.1 * sz,sz,p.2))=λp=>(p.1 * sz,sz,p.2):=rfl
  rw [show (qh (jf len zero) (parts.map ((λp=>(p.1 * sz,sz,p.2.ev [])) ∘ λp=>(p.1,p.2.sub σ))))=some cs' from h1]
  rfl
 | makeSlice sz bytes zero l c =>
  simp only [GK.bB,Bool.and_eq_true] at hc
  have hl:=eX h hc.1.2
  have hcc:=eX h hc.2
  simp only [GK.sub,wK] at hv
  split at hv
  case h_2=>exact hv.elim
  rename_i d' n cs r
  split at hv
  case h_2=>exact hv.elim
  split at hv
  case h_2=>exact hv.elim
  rename_i hz hfl
  obtain ⟨_,⟨e1,e2,e3,e4⟩,hv⟩:=lC hv
  obtain ⟨_,rfl,hk⟩:=lC hv
  rw [e1] at hl
  rw [e2] at hcc
  have hz:=Nat.eq_of_beq_eq_true hz
  refine ⟨_,true,_,jf n zero,false,.slice sz n n true,_,hk, ?_, ?_,(λh=>by cases h),aeJ _ _ _ _ _ (by rw [Bf,hz]) (by rw [Bf,hz];exact Nat.le_refl _)⟩
  ·simp only [GK.sub,aK,hl.eq rfl,hcc.eq rfl,Fh]
   rw [if_pos (by simp;omega)]
   rfl
  ·exact Dp (κ:=ι) (by
    have:∀ n,(jf n zero).all AV.flat=true:=λn=>by
     induction n with
     | zero=>rfl
     | succ n ih=>simp only [jf,List.all_append,hfl,ih,Bool.and_self]
    exact this n) (bM.jf hc.1.1 n)
 | nE x =>
  have hx:=eX h hc
  simp only [GK.sub,wK] at hv
  split at hv
  case h_2=>exact hv.elim
  rename_i t ht
  obtain ⟨_,h1,h2⟩:=lC hv
  rw [ht] at hx
  refine ⟨_,true,_,t.map λb=>.int .u8 b.toNat,true,.slice 1 t.length t.length false,_,h2,by simp only [GK.sub,aK,hx.eq rfl,if_pos h1], ?_,(λh=>by cases h),aeJ _ _ _ _ _ (by simp) (by simp)⟩
  have:∀ t:List UInt8,bM M (OR R ι) VI.none (t.map λb=>AV.int .u8 b.toNat) (t.map λb=>AV.int .u8 b.toNat):=λt=>by
   induction t with
   | nil=>simp [bM]
   | cons b t ih=>simp only [List.map_cons,bM,VL];exact ⟨trivial,ih⟩
  exact this t
 | makeMap=>simp [GK.sub,wK] at hv
end
theorem BL.of {R:Nat→Prop} {ι:VI} {M:Heap} {c c':List AV} {sl sl':Bool} (hr:bM M (OR R ι) (if sl then VI.none else ι) c c') (hs:sl=false→sl'=false):BL M (OR R ι) ι (some (c.length,c'.length)) (.cells c false sl) (some (.cells c' false sl')) :=
 ⟨c',[],false,sl',c'.length,by simp,λ_=>rfl,rfl,by simp,hr,hs⟩
theorem ait {c cs c':List AV} {o:Nat} (h:Qg c o cs=some c'):o+cs.length≤c.length∧c'=c.take o++cs++c.drop (o+cs.length)∧c'.length=c.length:=by
 unfold Qg at h
 split at h
 case isFalse=>cases h
 rename_i hle
 obtain rfl:=Option.some.inj h
 refine ⟨hle,rfl, ?_⟩
 simp only [List.length_append,List.length_take,List.length_drop]
 omega
theorem aeK {R:Nat→Prop} {ι:VI} {H:WH} {M:Heap} (s:VS R ι H M) {b j o:Nat} (hb:ι b=some j) {c:List AV} {sl:Bool} (hg:dh H b=some (.cells c false sl)) {cs cs' c':List AV} (hcs:bM M (OR R ι) (if sl then VI.none else ι) cs cs') (h:Qg c o cs=some c') :
  ∃ M',M.write j o cs'=some M'∧VS R ι (gY H b (some (.cells c' false sl))) M'∧Stp H.length [b] ι H M ι (gY H b (some (.cells c' false sl))) M':=by
 obtain ⟨h1,h2,h3⟩:=ait h
 obtain ⟨d,t,ro',sl',L,g1,g2,g3,g4,g5⟩:=s.at hb hg
 obtain ⟨rfl,_⟩:=g2 rfl
 have hl:=g5.length
 have hl':=hcs.length
 have e:(d++t).take o++cs'++(d++t).drop (o+cs'.length)=(d.take o++cs'++d.drop (o+cs'.length))++t:=by
  rw [List.take_append_of_le_length (by omega),List.drop_append_of_le_length (by omega)]
  simp only [List.append_assoc]
 have hbl:BL M (OR R ι) ι (ι.dim b) (.cells c' false sl) (some (.cells ((d++t).take o++cs'++(d++t).drop (o+cs'.length)) false sl')):=by
  refine ⟨d.take o++cs'++d.drop (o+cs'.length),t,false,sl',L,by rw [e],λ_=>rfl,by rw [h3];exact g3, ?_, ?_,λh=>s.akU hb hg g1 h⟩
  ·simp only [List.length_append,List.length_take,List.length_drop] at g4 ⊢
   omega
  ·rw [h2,hl']
   exact ((g5.take o).append hcs).append (g5.drop _)
 obtain ⟨q1,q2⟩:=s.put hb hg hbl
 refine ⟨_, ?_,q1,q2⟩
 unfold Heap.write
 rw [g1]
 simp only
 rw [if_pos (by simp only [List.length_append];omega)]
theorem ac5 {R:Nat→Prop} {ι:VI} {H:WH} {M:Heap} (s:VS R ι H M) {n:Nat} {a v a' v':AV} (ha:VL M (OR R ι) ι a a') (hv:VL M (OR R ι) ι v v') {tr:TS} {k:AV→WH→List Nat→TS→Prop} {C:bJ} {B:FuncId→Option Bt} {d:Option Nat}
  (h:wN C B d (.store n (.c a) (.c v)) H tr k):∃ r M' bF u H' t jP,Rj n a' v' M=some (r,M')∧VS R bF H' M'∧Stp H.length t ι H M bF H' M'∧VL M' (OR R bF) bF u r∧k u H' t jP:=by
 simp only [wN,AX.ev] at h
 split at h
 case h_2=>exact h.elim
 rename_i b off cs hcs
 split at h
 case h_2=>exact h.elim
 rename_i hn
 have hn:=Nat.eq_of_beq_eq_true hn
 split at h
 case h_2=>exact h.elim
 split at h
 case h_2=>exact h.elim
 rename_i c sl hg
 simp only [VL] at ha
 obtain ⟨j,hj,rfl⟩:=ha
 obtain ⟨cs',e1,e2⟩:=hv.cells hcs
 have fin:∀ (lu:VI) (H1:WH) (x c':List AV) (r:TS),VS R lu H1 M→Stp H.length [] ι H M lu H1 M→H1.length=H.length→dh H1 b=some (.cells c false sl)→bM M (OR R lu) (if sl then VI.none else lu) x cs'→Qg c off x=some c'→k (.tuple []) (gY H1 b (some (.cells c' false sl))) [b] r →
   ∃ r M' bF u H' t jP,Rj n (.ptr (some (j,off))) v' M=some (r,M')∧VS R bF H' M'∧Stp H.length t ι H M bF H' M'∧VL M' (OR R bF) bF u r∧k u H' t jP:=by
  intro lu H1 x c' r s1 k1 hlen hg1 hx hw hk
  have hj1:=((k1.le b (rX hg)).1 j hj).1
  obtain ⟨M',q1,q2,q3⟩:=aeK s1 hj1 hg1 hx hw
  refine ⟨.tuple [],M',lu,.tuple [],_,[b],r, ?_,q2, ?_,by simp [VL,bM],hk⟩
  ·simp only [Rj,e1]
   rw [if_pos (by rw [← e2.length];exact hn),q1]
   rfl
  ·have:=k1.trans q3 (by omega)
   simpa using this
 split at h
 ·split at h
  ·split at h
   case h_2=>exact h.elim
   rename_i c' hw
   exact fin ι H cs c' _ s (.refl _ _ _ _ _ (Nat.le_refl _)) rfl hg e2 hw h
  ·obtain ⟨_,h⟩:=lC h
   exact fin ι H cs _ _ s (.refl _ _ _ _ _ (Nat.le_refl _)) rfl hg e2 h.1 h.2
 ·split at h
  case h_2=>exact h.elim
  rename_i p hp
  split at h
  ·exact h.elim
  rename_i hb
  obtain ⟨u1,u2⟩:=s.ac1 p.2 (vC (λv p=>tZ 5 true v p) _ _ hp)
  have hx:=WL s hp e2
  have hg1:dh (Fx H p.2) b=some (.cells c false true):=by
   rw [Ei,hb]
   exact hg
  split at h
  ·split at h
   case h_2=>exact h.elim
   rename_i c' hw
   exact fin _ _ p.1 c' _ u1 u2 (tY _ _) hg1 hx hw h
  ·obtain ⟨_,h⟩:=lC h
   exact fin _ _ p.1 _ _ u1 u2 (tY _ _) hg1 hx h.1 h.2
theorem akY {C:bJ} {B:FuncId→Option Bt} (hB:∀ f b,B f=some b→Z6 C f b) {R:Nat→Prop} {ι:VI} {H:WH} {M:Heap} (s:VS R ι H M) {ρ σ:Nat→AV} (h:∀ t,VL M (OR R ι) ι (ρ t) (σ t)) {d:Option Nat} {o:Ca} (hc:o.bB=true) {tr:TS} {k:AV→WH→List Nat→TS→Prop}
  (hk:wN C B d (o.sub ρ) H tr k):∃ a M' bF v H' t jP,aN C (o.sub σ) [] M=some (a,M')∧VS R bF H' M'∧Stp H.length t ι H M bF H' M'∧VL M' (OR R bF) bF v a∧k v H' t jP:=by
 cases o with
 | store n a v =>
  simp only [Ca.bB,Bool.and_eq_true] at hc
  exact ac5 s (eX h hc.1) (eX h hc.2) (C:=C) (B:=B) (d:=d) (a:=(a.sub ρ).ev []) (v:=(v.sub ρ).ev []) (by simpa only [Ca.sub,wN,AX.ev] using hk)
 | call f args =>
  simp only [Ca.bB,Bool.and_eq_true] at hc
  have hf:=eX h hc.1
  have ha:=Q0 h hc.2
  simp only [Ca.sub,wN] at hk
  split at hk
  case h_2=>exact hk.elim
  rename_i g caps hg
  rw [hg] at hf
  simp only [VL] at hf
  obtain ⟨aoI,hf,amj⟩:=hf
  have hargs:=ha.append amj
  simp only [Ca.sub,aN,XR,hf]
  split at hk
  ·rename_i bt hbt
   obtain ⟨a,M',bF,v,H',tt,jP,q1,q2,q3,q4,q5⟩:=hB g bt hbt R ι H M _ _ d tr _ s hargs hk
   exact ⟨a,M',bF,v,H',tt,jP,q1,q2,q3,q4,q5⟩
  ·exact aeI s hargs hk
 | append sz bytes b x =>
  simp only [Ca.bB,Bool.and_eq_true] at hc
  have hs:=eX h hc.1
  have hx:=eX h hc.2
  simp only [Ca.sub,wN] at hk
  split at hk
  case h_2=>exact hk.elim
  rename_i m new S hel
  split at hk
  case h_2=>exact hk.elim
  rename_i len old H' t hbase
  obtain ⟨_,hk⟩:=Q_ hk
  obtain ⟨jP,hf,hk⟩:=lC hk
  obtain ⟨e1,e2,cs',e3,e4⟩:=Oc s hx hel
  obtain ⟨u1,u2⟩:=s.ac1 S (Hz hel)
  obtain ⟨a',M',bF,q1,q2,q3,q4⟩:=Vo u1 (VL.step s u2 hs) e4 e2 hbase hf
  refine ⟨a',M',bF,_,_,t,jP, ?_,q2, ?_,q4,hk⟩
  ·simp only [Ca.sub,aN,e1,if_true,e3,Option.bind_some]
   exact q1
  ·rw [tY] at q3
   have:=u2.trans q3 (Nat.le_refl _)
   simpa using this
 | uG x =>
  have hx:=eX h hc
  simp only [Ca.sub,wN] at hk
  split at hk
  case h_2=>exact hk.elim
  rename_i b sz n hX
  split at hk
  case h_2=>exact hk.elim
  rename_i c sl hg
  split at hk
  case h_2=>exact hk.elim
  rename_i aeL
  rw [hX] at hx
  have hx0:=hx
  obtain ⟨k1,k2,p,s',cap,ex,ha,k3,k4,k5⟩:=VL.uU s hx hg
  rw [ha] at hx0
  rcases k5 with ⟨j,c',t,ro',sl',L,g1,g2,g3,g4,g5,g6,rfl,g7⟩ | ⟨e,_⟩
  ·obtain ⟨rfl,_⟩:=g3 rfl
   have g6':bM M (OR R ι) VI.none c c':=by
    cases sl with
    | true=>exact g6
    | false=>exact Dp (by simpa using aeL) g6
   obtain ⟨r1,r2⟩:=s.put g1 hg (x:=.cells c false true) (y:=.cells (c'++t) false true) ⟨c',t,false,true,L,rfl,λ_=>rfl,g4,g5,g6',λh=>by cases h⟩
   refine ⟨_,_,ι,_,_,[b],_, ?_,r1,r2,VL.step s r2 hx0,hk⟩
   simp only [Ca.sub,aN,ha,Rk]
   rw [if_neg (by omega),g2]
  ·cases e
 | _=>simp [Ca.sub,wN] at hk
end Go.Proofs.YtohoggieaanllaaGreat
end
section
set_option linter.all false
set_option linter.unusedSimpArgs false
namespace Go.Proofs.YtohoggieaanllaaGreat
def uV (R:Nat→Prop) (ι:VI) (M:Heap) (l lA:Fast):Prop:=∀ t,VL M (OR R ι) ι (look l t) (look lA t)
theorem uV.step {R:Nat→Prop} {t:List Nat} {ι bF:VI} {H H':WH} {M M':Heap} (s:VS R ι H M) (k:Stp H.length t ι H M bF H' M') {l lA:Fast} (h:uV R ι M l lA):uV R bF M' l lA:=λt=>VL.step s k (h t)
theorem uW {u t:Nat} {v:AV} {r:Fast}:look ((u,v)::r) t=if u=t then v else look r t:=by
 simp only [look]
 cases h:Nat.beq u t with
 | true=>simp [Nat.eq_of_beq_eq_true h]
 | false =>
  have:u≠t:=λe=>by subst e;simp at h
  simp [this]
theorem vD (n:Nat) (d:Option Nat) (v:AV) (l:Fast) (t:Nat):look (lT n d v l) t=if d=some t∧t < n then v else look l t:=by
 cases d with
 | none=>simp [lT]
 | some d =>
  simp only [lT]
  cases hb:Nat.blt d n with
  | true =>
   have hd:d < n:=by simpa [Nat.blt_eq] using hb
   simp only [uW]
   by_cases he:d=t
   ·subst he
    simp [hd]
   ·simp [he]
  | false =>
   have hd:¬ d < n:=λh=>by
    have:Nat.blt d n=true:=by simpa [Nat.blt_eq] using h
    rw [hb] at this
    cases this
   simp only
   rw [if_neg]
   rintro ⟨h1,h2⟩
   obtain rfl:=Option.some.inj h1
   exact hd h2
theorem VL.lT {M:Heap} {O:Nat→Prop} {κ:VI} {l lA:Fast} {n:Nat} {d:Option Nat} {v a:AV} {t:Nat} (h:VL M O κ (look l t) (look lA t)) (hv:VL M O κ v a):VL M O κ (look (Proofs.YtohoggieaanllaaGreat.lT n d v l) t) (look (Proofs.YtohoggieaanllaaGreat.lT n d a lA) t):=by
 rw [vD,vD]
 split
 ·exact hv
 ·exact h
theorem uV.put {R:Nat→Prop} {ι:VI} {M:Heap} {l lA:Fast} (h:uV R ι M l lA) (n:Nat) (d:Option Nat) {v a:AV} (hv:VL M (OR R ι) ι v a):uV R ι M (lT n d v l) (lT n d a lA):=λt=>VL.lT (h t) hv
theorem VL.unit {M:Heap} {O:Nat→Prop} {κ:VI}:VL M O κ (.tuple []) (.tuple []):=by simp [VL,bM]
def akZ (l l':Fast):Prop:=∀ t,look l' t=look l t∨∃ b,look l t=.bool b∧look l' t=.bool b
theorem akZ.eq {l l':Fast} (h:akZ l l') (t:Nat):look l' t=look l t:=(h t).elim id λ⟨b,h1,h2⟩=>by rw [h1,h2]
theorem Vq:∀ {H:WH} {b:Nat} {x:kN},dh H b=some x→gY H b (some x)=H
 | [],_,_,h=>by cases h
 | _::_,0,_,h=>by
  simp only [dh] at h
  subst h
  rfl
 | _::r,i+1,_,h=>by
  simp only [dh] at h
  simp only [gY,Vq h]
theorem Fy {k:Fast→WH→TS→Prop} {R:Type}:∀ {f:Option R} (T:Tc f) (l:Fast) (H:WH),WC k T l H→∃ l' jP,(∀ t,look l' t=look l t)∧k l' H jP
 | _,.bd kk,l,H,h=>by
  obtain ⟨x,q,h⟩:=h
  exact Fy (kk x q) l H h
 | _,.gd kk,l,H,h=>by
  obtain ⟨q,h⟩:=h
  exact Fy (kk q) l H h
 | _,.ite (b:=b) x y,l,H,h=>by
  have hb:b=true∨b=false:=by cases b<;>simp
  rcases hb with hb | hb
  ·exact Fy (x hb) l H (h.1 hb)
  ·exact Fy (y hb) l H (h.2 hb)
 | _,.rv t u _ r,l,H,h=>by
  obtain ⟨e,h⟩:=h
  obtain ⟨l',jP,h1,h2⟩:=Fy r ((t,u)::l) H h
  refine ⟨l',jP,λs=>?_,h2⟩
  rw [h1,uW]
  split
  ·rename_i e'
   subst e'
   exact e.symm
  ·rfl
 | _,.rb b c _ r,l,H,h=>by
  simp only [WC] at h
  split at h
  case h_2=>exact h.elim
  rename_i c0 ro sl hg
  obtain ⟨rfl,h⟩:=h
  rw [Vq hg] at h
  exact Fy r l H h
 | _,.leaf x v,l,H,h=>⟨l,_,λ_=>rfl,h⟩
 | _,.y8 x v Q q,l,H,h=>⟨l,_,λ_=>rfl,h⟩
 | _,.fail,l,H,h=>⟨l,_,λ_=>rfl,h⟩
 | _,.br _ _ _,l,H,h=>⟨l,_,λ_=>rfl,h⟩
 | _,.ob _ _,l,H,h=>⟨l,_,λ_=>rfl,h⟩
 | _,.v _ _ _,l,H,h=>⟨l,_,λ_=>rfl,h⟩
 | _,.z _ _ _,l,H,h=>⟨l,_,λ_=>rfl,h⟩
 | _,.ap _ _ _ _,l,H,h=>⟨l,_,λ_=>rfl,h⟩
 | _,.st _ _,l,H,h=>⟨l,_,λ_=>rfl,h⟩
 | _,.call _ _ _ _ _ _,l,H,h=>⟨l,_,λ_=>rfl,h⟩
 | _,.lp _ _ _ _ _ _ _,l,H,h=>⟨l,_,λ_=>rfl,h⟩
 | _,.jn _ _ _ _ _ _ _ _,l,H,h=>⟨l,_,λ_=>rfl,h⟩
 | _,.sk _,l,H,h=>⟨l,_,λ_=>rfl,h⟩
 | _,.cb _ _ _ _,l,H,h=>⟨l,_,λ_=>rfl,h⟩
 | _,.kl _ _,l,H,h=>⟨l,_,λ_=>rfl,h⟩
 | _,.er _,l,H,h=>⟨l,_,λ_=>rfl,h⟩
theorem wm {l:Fast} {H:WH} {tr:TS} {k:Fast→WH→TS→Prop} (h:Kr l H tr k):∃ l' jP,(∀ t,look l' t=look l t)∧k l' H jP:=Fy tr.tr l H h
theorem aaw {g:Option (Nat×Bool)} {l:Fast} {tr:TS} {yes no:Fast→TS→Prop} (h:wGd g l tr yes no):∃ l' jP,(∀ t,look l' t=look l t)∧((iH g l=some true∧yes l' jP)∨(iH g l=some false∧no l' jP)):=by
 have self:∀ t,look l t=look l t:=λ_=>rfl
 have like:∀ {t b},look l t=.bool b→∀ u,look ((t,.bool b)::l) u=look l u:=λ{t b} hb u=>by
  rw [uW]
  split
  ·rename_i e
   subst e
   exact hb.symm
  ·rfl
 unfold wGd at h
 split at h
 ·exact ⟨l,tr,self,.inl ⟨rfl,h⟩⟩
 ·rename_i t want
  split at h
  ·rename_i c hc
   have plain:∀ tr,wIf c want (yes l tr) (no l tr)→∃ l' jP,(∀ t,look l' t=look l t)∧((iH (some (t,want)) l=some true∧yes l' jP)∨(iH (some (t,want)) l=some false∧no l' jP)):=λtr h=>by
    refine ⟨l,tr,self, ?_⟩
    simp only [iH,hc]
    cases c<;>cases want<;>simp_all [wIf]
   split at h
   ·rename_i R0 f0 t' bq f g a b
    cases hb:Nat.beq t t' with
    | true =>
     rw [hb] at h
     simp only at h
     obtain ⟨hcb,h⟩:=h
     subst hcb
     cases c with
     | true =>
      have h:=h.1 rfl
      cases want with
      | true=>exact ⟨_,_,like hc,.inl ⟨by simp [iH,hc],h⟩⟩
      | false=>exact ⟨_,_,like hc,.inr ⟨by simp [iH,hc],h⟩⟩
     | false =>
      have h:=h.2 rfl
      cases want with
      | true=>exact ⟨_,_,like hc,.inr ⟨by simp [iH,hc],h⟩⟩
      | false=>exact ⟨_,_,like hc,.inl ⟨by simp [iH,hc],h⟩⟩
    | false =>
     rw [hb] at h
     exact plain _ h
   ·exact plain _ h
  ·rename_i vs hc
   exact ⟨l,tr,self,.inr ⟨by simp [iH,hc],h⟩⟩
  ·exact h.elim
theorem CO {R:Nat→Prop} {ι:VI} {M:Heap} {l lA:Fast} (h:uV R ι M l lA) {g:Option (Nat×Bool)} {w:Bool} (hw:iH g l=some w):iH g lA=some w:=by
 cases g with
 | none=>exact hw
 | some g =>
  obtain ⟨t,want⟩:=g
  have ht:=h t
  simp only [iH] at hw ⊢
  generalize look l t=X at *
  cases X<;>simp only at hw<;>first | (cases hw;done) | skip
  ·rw [ht.eq rfl]
   exact hw
  ·simp only [VL] at ht
   obtain ⟨cs',e,_⟩:=ht
   rw [e]
   exact hw
theorem JK {C:bJ} {B:FuncId→Option Bt} (hB:∀ f b,B f=some b→Z6 C f b) {R:Nat→Prop} {n:Nat}:∀ (ops:List sQ) (l lA:Fast) (H:WH) (M:Heap) (ι:VI) (tr:TS) (k:Fast→WH→TS→Prop),VS R ι H M→uV R ι M l lA→(ops.all λo=>o.op.bB)=true →
  Yk C B n ops l H tr k→∃ uS M' bF l' H' jP t,Mh C n ops lA M=some (uS,M')∧VS R bF H' M'∧Stp H.length t ι H M bF H' M'∧uV R bF M' l' uS∧k l' H' jP
 | [],l,lA,H,M,ι,tr,k,s,he,hc,h=>⟨lA,M,ι,l,H,tr,[],rfl,s,.refl _ _ _ _ _ (Nat.le_refl _),he,h⟩
 | o::r,l,lA,H,M,ι,tr,k,s,he,hc,h=>by
  simp only [List.all_cons,Bool.and_eq_true] at hc
  simp only [Yk] at h
  obtain ⟨l0,tr0,hl0,h⟩:=wm h
  have he:uV R ι M l0 lA:=λt=>by rw [hl0 t];exact he t
  obtain ⟨l1,tr1,hl,h⟩:=aaw h
  have he1:uV R ι M l1 lA:=λt=>by rw [hl t];exact he t
  rcases h with ⟨hw,h⟩ | ⟨hw,h⟩
  ·obtain ⟨l2,tr2,hl2,h⟩:=wm h
   have he1:uV R ι M l2 lA:=λt=>by rw [hl2 t];exact he1 t
   simp only [Mh,CO he hw]
   cases ho:o.op with
   | p op =>
    rw [ho] at h hc
    simp only at h
    obtain ⟨v,u,tr2,h1,h2,h3⟩:=WQ (R:=R) h
    obtain ⟨a,h4,h5⟩:=aeC he1 hc.1 h1
    obtain ⟨uS,M',bF,l',H',jP,t,q1,q2⟩:=JK hB r _ _ H M ι tr2 k s (he1.put n o.dst (h3 _ _ _ _ h5)) hc.2 h2
    refine ⟨uS,M',bF,l',H',jP,t, ?_,q2⟩
    simp only [yY.sub,LZ,h4,Option.map_some,force_eq]
    exact q1
   | l op =>
    rw [ho] at h hc
    simp only at h
    obtain ⟨v,u,tr2,h1,h2,h3⟩:=WQ (R:=R) h
    obtain ⟨a,h4,h5⟩:=Vn s he1 hc.1 h1
    obtain ⟨uS,M',bF,l',H',jP,t,q1,q2⟩:=JK hB r _ _ H M ι tr2 k s (he1.put n o.dst (h3 _ _ _ _ h5)) hc.2 h2
    refine ⟨uS,M',bF,l',H',jP,t, ?_,q2⟩
    simp only [yY.sub,LZ,h4,Option.map_some,force_eq]
    exact q1
   | k op =>
    rw [ho] at h hc
    simp only at h
    obtain ⟨c,sl,mk,c',sl',mkA,tr2,h1,h2,h3,hss,h4⟩:=akX s he1 hc.1 h
    obtain ⟨s1,k1⟩:=s.push (BL.of (sl':=sl') h3 hss)
    have hv:=h4 (M.push (.cells c' false sl')) (OR R (ι.add H.length M.next (c.length,c'.length))) (ι.add H.length M.next (c.length,c'.length)) H.length M.next (by simp [VI.add,setAt]) (by simp [VI.add,setAt])
    obtain ⟨uS,M',bF,l',H',jP,t,q1,q2,q3,q4⟩:=JK hB r _ _ _ _ _ tr2 k s1 ((he1.step s k1).put n o.dst hv) hc.2 h1
    refine ⟨uS,M',bF,l',H',jP,t, ?_,q2, ?_,q4⟩
    ·simp only [yY.sub,LZ,h2,Option.map_some,force_eq]
     exact q1
    ·have:=k1.trans q3 k1.next
     simpa using this
   | n op =>
    rw [ho] at h hc
    simp only at h
    obtain ⟨a,M1,lu,v,H1,t1,tr2,h1,h2,h3,h4,h5⟩:=akY hB s he1 hc.1 h
    obtain ⟨uS,M',bF,l',H',jP,t,q1,q2,q3,q4⟩:=JK hB r _ _ _ _ _ tr2 k h2 ((he1.step s h3).put n o.dst h4) hc.2 h5
    refine ⟨uS,M',bF,l',H',jP,t1++t, ?_,q2,h3.trans q3 h3.next,q4⟩
    simp only [yY.sub,LZ,h1,force_eq]
    exact q1
  ·simp only [Mh,CO he hw]
   exact JK hB r _ _ H M ι tr1 k s (he1.put n o.dst VL.unit) hc.2 h
theorem Oh:∀ (k i:Nat),dh (holes k) i=none
 | 0,i=>rfl
 | k+1,0=>rfl
 | k+1,i+1=>Oh k i
theorem JL:∀ k,(holes k).length=k
 | 0=>rfl
 | k+1=>by simp [holes,JL k]
def VI.room (ι:VI) (a b nk:Nat):VI:=⟨λi=>if a≤i∧i < a+nk then some (b+(i - a)) else ι i,λi=>if a≤i∧i < a+nk then false else ι.N8 i,λi=>if a≤i∧i < a+nk then false else ι.gone i,λi=>if a≤i∧i < a+nk then Option.none else ι.dim i⟩
theorem VS.room {R:Nat→Prop} {ι:VI} {H:WH} {M:Heap} (s:VS R ι H M) (nk:Nat) :
  VS R (ι.room H.length M.next nk) (H++holes nk) { M with next:=M.next+nk }∧Stp H.length [] ι H M (ι.room H.length M.next nk) (H++holes nk) { M with next:=M.next+nk }:=by
 have gp:∀ i,dh (H++holes nk) i=dh H i:=λi=>by
  rw [Mr]
  split
  ·rfl
  ·rename_i h
   rw [Oh,WJ (Nat.le_of_not_lt h)]
 have out:∀ i,i < H.length→¬ (H.length≤i∧i < H.length+nk):=λi h=>by omega
 have hls:∀ S,VI.Le ι (ι.room H.length M.next nk) S:=λS i _ =>
  ⟨λj h=>by simp only [VI.room,if_neg (out i (s.lt i j h).1)];exact ⟨h,λ_ h=>h⟩,λh=>by simp only [VI.room,if_neg (out i (s.y9 i h).1)];exact ⟨h,λ_ h=>h⟩⟩
 have hk:Keeps M (own ι) { M with next:=M.next+nk } (own (ι.room H.length M.next nk)):=⟨Nat.le_add_right _ _,λb hb ho=>⟨rfl,λ⟨i,hi,hg⟩=>by
  simp only [VI.room] at hi hg
  split at hi
  ·obtain rfl:=Option.some.inj hi;omega
  ·rename_i hne
   rw [if_neg hne] at hg
   exact ho ⟨i,hi,hg⟩⟩⟩
 have ac:∀ i,¬ (H.length≤i∧i < H.length+nk)→act (ι.room H.length M.next nk) (H++holes nk) i→act ι H i:=λi hn h=>h.imp (λ⟨x,h⟩=>⟨x,by rw [gp] at h;exact h⟩) (λh=>by simpa only [VI.room,if_neg hn] using h)
 refine ⟨⟨λi j h=>?_,λi i' j h h' e e' g=>?_,λi x hx=>?_,λi h=>?_,λi hi c sl h=>?_,λi hi=>s.Z5 i (by have:M.next+nk≤i:=hi;omega),λj h=>⟨Nat.lt_of_lt_of_le (s.res j h).1 (Nat.le_add_right _ _),λi hi=>?_⟩⟩,
  ⟨hk,hls _,λi hi h=>by simp only [VI.room,if_neg (out i hi)];exact h,λi hi=>by simp only [VI.room,if_neg (out i hi)],λi hi=>by simp only [VI.room,if_neg (out i hi)],λi hi _=>by simp only [VI.room,if_neg (out i hi)],λi _ ⟨x,h⟩=>⟨x,by rw [gp] at h;exact h⟩,λ_ _ _ _ _ _=>rfl,by simp⟩⟩
 ·simp only [VI.room] at h
  simp only [List.length_append,JL]
  split at h
  ·obtain rfl:=Option.some.inj h
   omega
  ·have:=s.lt i j h
   omega
 ·simp only [VI.room] at e e'
  split at e<;>split at e'
  ·have e1:=Option.some.inj e
   have e2:=Option.some.inj e'
   omega
  ·obtain rfl:=Option.some.inj e
   have:=(s.lt _ _ e').2
   omega
  ·obtain rfl:=Option.some.inj e'
   have:=(s.lt _ _ e).2
   omega
  ·rename_i n1 n2
   simp only [VI.room,if_neg n1,if_neg n2] at g
   exact s.inj i i' j (ac i n1 h) (ac i' n2 h') e e' g
 ·rw [gp] at hx
  have hl:=out i (rX hx)
  simp only [VI.room,if_neg hl]
  rcases s.blk i x hx with h | ⟨j,h1,h2,h3⟩
  ·exact .inl h
  ·exact .inr ⟨j,h1,h2.mono (hk.or R) hls (λ_ h=>h),h3⟩
 ·simp only [VI.room] at h ⊢
  split at h
  ·cases h
  ·rename_i hn
   rw [if_neg hn]
   have:=s.y9 i h
   simp only [List.length_append,JL]
   exact ⟨by omega,this.2⟩
 ·rw [gp] at h
  have hl:=out i (rX h)
  simp only [VI.room,if_neg hl] at hi
  exact s.yN i hi c sl h
 ·simp only [VI.room]
  split
  ·rename_i hn
   intro e
   obtain rfl:=Option.some.inj e
   have:=(s.res _ h).1
   omega
  ·rename_i hn
   exact (s.res j h).2 i (ac i hn hi)
def VI.fill (ι:VI) (i:Nat) (d:Nat×Nat):VI:=⟨ι.to,ι.N8,ι.gone,setAt ι.dim i (some d)⟩
theorem VS.fill {R:Nat→Prop} {ι:VI} {H:WH} {M:Heap} (s:VS R ι H M) {b j:Nat} (hb:ι b=some j) (hg:ι.gone b=false) (hd:ι.dim b=none) (hn:dh H b=none) {x y:kN} {d:Nat×Nat} (hx:BL M (OR R ι) ι (some d) x (some y)) :
  VS R (ι.fill b d) (gY H b (some x)) (M.put j (some y))∧Keeps M (own ι) (M.put j (some y)) (own (ι.fill b d))∧(∀ S,VI.Le ι (ι.fill b d) S)∧(∀ i j',i≠b→act ι H i→ι i=some j'→(M.put j (some y)).get j'=M.get j'):=by
 have hbl:=(s.lt b j hb).1
 have hk:Keeps M (own ι) (M.put j (some y)) (own (ι.fill b d)):=⟨Nat.le_refl _,λb' _ ho=>⟨by
  have:b'≠j:=λe=>ho (e ▸ ⟨b,hb,hg⟩)
  simp [Heap.put,this],ho⟩⟩
 have hls:∀ S,VI.Le ι (ι.fill b d) S:=λS i _=>by
  by_cases e:i=b
  ·subst e
   exact ⟨λj h=>⟨h,λd h=>by rw [hd] at h;cases h⟩,λh=>⟨h,λd h=>by rw [hd] at h;cases h⟩⟩
  ·simp only [VI.fill,bP _ _ e]
   exact ⟨λj h=>⟨h,λd h=>h⟩,λh=>⟨h,λd h=>h⟩⟩
 have gp:∀ k,dh (gY H b (some x)) k=if k=b then some x else dh H k:=λk=>by
  rw [o_]
  by_cases e:k=b
  ·rw [if_pos ⟨e,hbl⟩,if_pos e]
  ·rw [if_neg (λh=>e h.1),if_neg e]
 have ac:∀ i,act (ι.fill b d) (gY H b (some x)) i→act ι H i:=λi h=>by
  rcases h with ⟨z,h⟩ | h
  ·rw [gp] at h
   by_cases e:i=b
   ·subst e
    exact .inr hg
   ·rw [if_neg e] at h
    exact .inl ⟨z,h⟩
  ·exact .inr h
 have ne:∀ i j',i≠b→act ι H i→ι i=some j'→j'≠j:=λi j' hi ha h e=>hi (s.inj i b j ha (.inr hg) (e ▸ h) hb (.inr hg))
 refine ⟨⟨λi j h=>by rw [dZ];exact s.lt i j h,λi i' j h h'=>s.inj i i' j (ac i h) (ac i' h'),λi z hz=>?_,λi h=>by rw [dZ];exact s.y9 i h,λi hi c sl h=>?_,λi hi=>?_,λj h=>⟨(s.res j h).1,λi hi=>(s.res j h).2 i (ac i hi)⟩⟩,hk,hls,λi j' hi ha h=>by simp [Heap.put,ne i j' hi ha h]⟩
 ·rw [gp] at hz
  by_cases e:i=b
  ·subst e
   rw [if_pos rfl] at hz
   obtain rfl:=Option.some.inj hz
   refine .inr ⟨j,hb, ?_,λ_=>hg⟩
   simp only [Heap.put,if_true]
   exact hx.mono (hk.or R) hls (λ_ h=>by simpa [VI.fill,setAt] using h)
  ·rw [if_neg e] at hz
   rcases s.blk i z hz with ⟨h1,h2,h3⟩ | ⟨j',h1,h2,h3⟩
   ·exact .inl ⟨h1,by simp only [VI.fill,bP _ _ e];exact h2,h3⟩
   ·refine .inr ⟨j',h1, ?_,h3⟩
    simp only [Heap.put,if_neg (ne i j' e (.inl ⟨z,hz⟩) h1)]
    exact h2.mono (hk.or R) hls (λ_ h=>by simp only [VI.fill,bP _ _ e];exact h)
 ·rw [gp] at h
  by_cases e:i=b
  ·subst e
   have:ι.gone i=true:=hi
   rw [hg] at this
   cases this
  ·rw [if_neg e] at h
   exact s.yN i hi c sl h
 ·have:=(s.lt b j hb).2
  have:i≠j:=λe=>by subst e;simp only [Heap.put] at hi;omega
  simp only [Heap.put,if_neg this]
  exact s.Z5 i hi
mutual
theorem VL.ze {M:Heap} {O:Nat→Prop} {κ:VI}:∀ (v a:AV),known v=true→VL M O κ v a→AV.same a a=true
 | .undef,_,h,_=>by simp [known] at h
 | .bool _,_,_,e=>by simp only [VL] at e;subst e;simp [AV.same]
 | .int _ _,_,_,e=>by simp only [VL] at e;subst e;simp [AV.same]
 | .str _,_,_,e=>by simp only [VL] at e;subst e;simp [AV.same]
 | .ptr none,_,_,e=>by simp only [VL] at e;subst e;simp [AV.same]
 | .ptr (some q),_,_,e=>by simp only [VL] at e;obtain ⟨j,_,rfl⟩:=e;simp [AV.same]
 | .slice none _ _ _ _,_,_,e=>by simp only [VL] at e;obtain ⟨_,s',rfl⟩:=e;simp [AV.same]
 | .slice (some _) _ _ _ _,_,_,e=>by simp [VL] at e
 | .map none,_,_,e=>by simp only [VL] at e;subst e;simp [AV.same]
 | .map (some r),_,_,e=>by simp only [VL] at e;obtain ⟨j,_,rfl⟩:=e;simp [AV.same]
 | .func f cs,_,h,e=>by
  simp only [VL] at e
  obtain ⟨cs',rfl,e⟩:=e
  simp only [AV.same,Bool.and_eq_true,beq_self_eq_true,true_and]
  exact bM.ze cs cs' (by simpa [known] using h) e
 | .nilFunc,_,_,e=>by simp only [VL] at e;subst e;simp [AV.same]
 | .agg cs,_,h,e=>by
  simp only [VL] at e
  obtain ⟨cs',rfl,e⟩:=e
  simp only [AV.same]
  exact bM.ze cs cs' (by simpa [known] using h) e
 | .tuple cs,_,h,e=>by
  simp only [VL] at e
  obtain ⟨cs',rfl,e⟩:=e
  simp only [AV.same]
  exact bM.ze cs cs' (by simpa [known] using h) e
 | .list ..,_,_,e=>by
  simp only [VL] at e
  rcases e with ⟨_,_,s',rfl⟩ | ⟨b,o,cap,ex',rfl,_⟩<;>simp [AV.same]
 | .elem _,_,_,e=>by simp only [VL] at e;obtain ⟨b,o,c,ro,sl,rfl,_⟩:=e;simp [AV.same]
 | .acc ..,_,_,e=>by simp only [VL] at e;obtain ⟨p,s',cap,ex,rfl,_⟩:=e;simp [AV.same]
theorem bM.ze {M:Heap} {O:Nat→Prop} {κ:VI}:∀ (l r:List AV),N9 l=true→bM M O κ l r→AV.G8 r r=true
 | [],[],_,_=>by simp [AV.G8]
 | v::l,a::r,h,e=>by
  simp only [bM] at e
  simp only [N9] at h
  split at h
  ·rename_i hv
   simp only [AV.G8,Bool.and_eq_true]
   exact ⟨VL.ze v a hv e.1,bM.ze l r h e.2⟩
  ·cases h
 | [],_::_,_,e=>by simp [bM] at e
 | _::_,[],_,e=>by simp [bM] at e
end
end Go.Proofs.YtohoggieaanllaaGreat
end
section
set_option linter.all false
set_option linter.unusedSimpArgs false
namespace Go.Proofs.YtohoggieaanllaaGreat
theorem Yu (u k:Nat) (bt:List (Nat×Nat)) (t:Nat):og ((u,k)::bt) t=if u=t then k else og bt t:=by
 simp only [og]
 cases h:Nat.beq u t with
 | true=>simp [Nat.eq_of_beq_eq_true h]
 | false =>
  have:u≠t:=λe=>by subst e;simp at h
  simp [this]
theorem K7 (n:Nat) (d:Option Nat) (k:Nat) (bt:List (Nat×Nat)) (t:Nat):og (mD n d k bt) t=if d=some t∧t < n then k else og bt t:=by
 cases d with
 | none=>simp [mD]
 | some d =>
  simp only [mD]
  cases hb:Nat.blt d n with
  | true =>
   have hd:d < n:=by simpa [Nat.blt_eq] using hb
   simp only [Yu]
   by_cases he:d=t
   ·subst he
    simp [hd]
   ·simp [he]
  | false =>
   have hd:¬ d < n:=λh=>by
    have:Nat.blt d n=true:=by simpa [Nat.blt_eq] using h
    rw [hb] at this
    cases this
   simp only
   rw [if_neg]
   rintro ⟨h1,h2⟩
   obtain rfl:=Option.some.inj h1
   exact hd h2
def JW (bt:List (Nat×Nat)) (k:Nat) (ρ:Nat→AV):Nat→AV:=λt=>if og bt t≤k then ρ t else .undef
theorem acg {bt:List (Nat×Nat)} {k:Nat} {ρ:Nat→AV} {x:AX} (h:nI bt x≤k):x.sub (JW bt k ρ)=x.sub ρ:=by
 cases x with
 | t t=>simp only [nI] at h;simp only [AX.sub,JW];rw [if_pos h]
 | c v=>rfl
theorem aeM {bt:List (Nat×Nat)} {k:Nat} {ρ:Nat→AV} {x:Option AX} (h:WE bt x≤k):AX.iI (JW bt k ρ) x=AX.iI ρ x:=by
 cases x with
 | none=>rfl
 | some x=>simp only [AX.iI,Option.map_some,acg h]
theorem ac6 {bt:List (Nat×Nat)} {n k:Nat} {ρ:Nat→AV} {o:kP} (hk:k < n) (h:Yl bt n o≤k):o.sub (JW bt k ρ)=o.sub ρ:=by
 cases o<;>simp only [Yl] at h<;>first | omega | skip
 all_goals simp only [kP.sub]
 all_goals (repeat rw [acg (by omega)])
 all_goals (repeat rw [aeM (by omega)])
theorem om {b:Nat} {t:List Nat×WH} {r:List (List Nat×WH)}:touches b (t::r)=false↔b ∉ t.1∧touches b r=false:=by
 simp only [touches]
 cases h:rV t.1 b with
 | true=>simp [za.1 h]
 | false=>simp [show b ∉ t.1 from λe=>by rw [za.2 e] at h;cases h]
theorem Pw {b:Nat} {t:List Nat×WH}:∀ {r:List (List Nat×WH)},touches b (r++[t])=false↔touches b r=false∧b ∉ t.1
 | []=>by rw [List.nil_append,om];simp [touches]
 | u::r=>by rw [List.cons_append,om,om,Pw,and_assoc]
structure HK (R:Nat→Prop) (base dU nk k:Nat) (qF ι:VI) (H:WH) (M:Heap) (l lA:Fast) (bt:List (Nat×Nat)) (hs:List (List Nat×WH)) (Mk:Heap) (vR:VI):Prop where
 keep:Keeps Mk (own vR) M (own ι)
 env:∀ t,og bt t≤k+1→VL Mk (OR R vR) vR (look l t) (look lA t)
 new:∀ i,i < nk→vR (base+i)=some (dU+i)
 gone:∀ i,i < nk→vR.gone (base+i)=true→ι.gone (base+i)=true
 same:∀ i j,i < base→act ι H i→qF i=some j→touches i (hs.drop k)=false→M.get j=Mk.get j
structure DI (R:Nat→Prop) (base dU nk:Nat) (qF:VI) (M0:Heap) (ι:VI) (H:WH) (M:Heap) (l lA:Fast) (bt:List (Nat×Nat)) (al:List Nat) (hs:List (List Nat×WH)) (iQ:List Heap):Prop where
 vs:VS R ι H M
 len:base+nk≤H.length
 env:uV R ι M l lA
 new:∀ i,i < nk→ι (base+i)=some (dU+i)
 free:∀ i,i < nk→rV al i=false→ι.gone (base+i)=false∧ι.dim (base+i)=none∧dh H (base+i)=none
 start:∀ t,og bt t=0→VL M0 (OR R qF) qF (look l t) (look lA t)
 low:∀ i j,qF i=some j→i < base∧j < dU
 le0:VI.Le qF ι (λi=>i < base)
 to0:∀ i,i < base→ι i=qF i
 m0:M0.next=dU
 hlen:hs.length=iQ.length
 hist:∀ k Mk,iQ[k]?=some Mk→∃ vR,HK R base dU nk k qF ι H M l lA bt hs Mk vR∧∃ t Hk,hs[k]?=some (t,Hk)∧VS R vR Hk Mk
section
variable {R:Nat→Prop} {base dU nk:Nat} {qF:VI} {M0:Heap} {ι:VI} {H:WH} {M:Heap} {l lA:Fast} {bt:List (Nat×Nat)} {al:List Nat} {hs:List (List Nat×WH)} {iQ:List Heap}
theorem HK.put {k:Nat} {Mk:Heap} {vR:VI} (g:HK R base dU nk k qF ι H M l lA bt hs Mk vR) (n:Nat) (d:Option Nat) (b:Nat) {v a:AV} (hv:b≤k+1→VL Mk (OR R vR) vR v a):HK R base dU nk k qF ι H M (lT n d v l) (lT n d a lA) (mD n d b bt) hs Mk vR :=
 ⟨g.keep,λt ht=>by
  rw [vD,vD]
  rw [K7] at ht
  split
  ·rename_i h
   rw [if_pos h] at ht
   exact hv ht
  ·rename_i h
   rw [if_neg h] at ht
   exact g.env t ht,g.new,g.gone,g.same⟩
theorem DI.put (g:DI R base dU nk qF M0 ι H M l lA bt al hs iQ) (n:Nat) (d:Option Nat) (b:Nat) {v a:AV} (hv:VL M (OR R ι) ι v a) (h0:b=0→VL M0 (OR R qF) qF v a)
  (hk:∀ k Mk vR,k < hs.length→HK R base dU nk k qF ι H M l lA bt hs Mk vR→b≤k+1→VL Mk (OR R vR) vR v a):DI R base dU nk qF M0 ι H M (lT n d v l) (lT n d a lA) (mD n d b bt) al hs iQ :=
 ⟨g.vs,g.len,g.env.put n d hv,g.new,g.free,λt ht=>by
  rw [vD,vD]
  rw [K7] at ht
  split
  ·rename_i h
   rw [if_pos h] at ht
   exact h0 ht
  ·rename_i h
   rw [if_neg h] at ht
   exact g.start t ht,g.low,g.le0,g.to0,g.m0,g.hlen,λk Mk h=>by
   obtain ⟨vR,q,q2⟩:=g.hist k Mk h
   exact ⟨vR,q.put n d b λhb=>hk k Mk vR (by rw [g.hlen];exact (List.getElem?_eq_some_iff.1 h).1) q hb,q2⟩⟩
theorem DI.anB (g:DI R base dU nk qF M0 ι H M l lA bt al hs iQ) (n:Nat) (d:Option Nat) (b:Nat) {v a:AV} (hv:VL M (OR R ι) ι v a) (h0:b=0→VL M0 (OR R qF) qF v a)
  (hk:∀ k Mk vR t Hk,iQ[k]?=some Mk→HK R base dU nk k qF ι H M l lA bt hs Mk vR→hs[k]?=some (t,Hk)→VS R vR Hk Mk→b≤k+1→VL Mk (OR R vR) vR v a):DI R base dU nk qF M0 ι H M (lT n d v l) (lT n d a lA) (mD n d b bt) al hs iQ :=
 ⟨g.vs,g.len,g.env.put n d hv,g.new,g.free,λt ht=>by
  rw [vD,vD]
  rw [K7] at ht
  split
  ·rename_i h
   rw [if_pos h] at ht
   exact h0 ht
  ·rename_i h
   rw [if_neg h] at ht
   exact g.start t ht,g.low,g.le0,g.to0,g.m0,g.hlen,λk Mk h=>by
   obtain ⟨vR,q,t,Hk,q2,q3⟩:=g.hist k Mk h
   exact ⟨vR,q.put n d b λhb=>hk k Mk vR t Hk h q q2 q3 hb,t,Hk,q2,q3⟩⟩
theorem DI.now (g:DI R base dU nk qF M0 ι H M l lA bt al hs iQ) (n:Nat) (d:Option Nat) {v a:AV} (hv:VL M (OR R ι) ι v a):DI R base dU nk qF M0 ι H M (lT n d v l) (lT n d a lA) (mD n d (hs.length+1) bt) al hs iQ :=
 g.put n d (hs.length+1) hv (λh=>by omega) (λk Mk vR hk _ hb=>by omega)
theorem DI.like {l':Fast} (g:DI R base dU nk qF M0 ι H M l lA bt al hs iQ) (h:∀ t,look l' t=look l t):DI R base dU nk qF M0 ι H M l' lA bt al hs iQ :=
 ⟨g.vs,g.len,λt=>by rw [h t];exact g.env t,g.new,g.free,λt ht=>by rw [h t];exact g.start t ht,g.low,g.le0,g.to0,g.m0,g.hlen,λk Mk e=>by
  obtain ⟨vR,q,q2⟩:=g.hist k Mk e
  exact ⟨vR,⟨q.keep,λt ht=>by rw [h t];exact q.env t ht,q.new,q.gone,q.same⟩,q2⟩⟩
theorem DI.loud (g:DI R base dU nk qF M0 ι H M l lA bt al hs iQ) {t:List Nat} {bF:VI} {H':WH} {M':Heap} (s':VS R bF H' M') (k:Stp H.length t ι H M bF H' M'):DI R base dU nk qF M0 bF H' M' l lA bt al (hs++[(t,H)]) (iQ++[M]):=by
 have hb:∀ i,i < nk→base+i < H.length:=λi hi=>by have:=g.len;omega
 have nw:∀ i,i < nk→bF (base+i)=some (dU+i):=λi hi=>((k.le _ (hb i hi)).1 _ (g.new i hi)).1
 refine ⟨s',Nat.le_trans g.len k.next,g.env.step g.vs k,nw,λi hi ha=>?_,g.start,g.low,g.le0.trans (k.le.sub λi hi=>by have:=g.len;have:i < base:=hi;show i < H.length;omega),λi hi=>(k.toq i (by have:=g.len;omega)).trans (g.to0 i hi),g.m0,by simp [g.hlen],λq Mk hq=>?_⟩
 ·obtain ⟨h1,h2,h3⟩:=g.free i hi ha
  refine ⟨by rw [k.Vg _ (hb i hi) h3];exact h1,by rw [k.aan _ (hb i hi)];exact h2, ?_⟩
  cases e:dh H' (base+i) with
  | none=>rfl
  | some x =>
   obtain ⟨y,hy⟩:=k.live _ (hb i hi) ⟨x,e⟩
   rw [h3] at hy
   cases hy
 ·rcases Nat.lt_or_ge q iQ.length with hlt | hge
  ·rw [List.getElem?_append_left hlt] at hq
   obtain ⟨vR,w,t0,Hk,w2,w3⟩:=g.hist q Mk hq
   refine ⟨vR,⟨w.keep.trans k.keep,w.env,w.new,λi hi h=>k.gone _ (hb i hi) (w.gone i hi h),λi j hi ha hj ht=>?_⟩,t0,Hk,by rw [List.getElem?_append_left (by rw [g.hlen];exact hlt)];exact w2,w3⟩
   rw [List.drop_append_of_le_length (by rw [g.hlen];omega),Pw] at ht
   have hi':i < H.length:=by have:=g.len;omega
   exact (k.tch i j hi' ha ((g.le0 i hi).1 j hj).1 ht.2).trans (w.same i j hi (k.act hi' ha) hj ht.1)
  ·rw [List.getElem?_append_right hge] at hq
   have hqe:q=iQ.length:=by
    rcases Nat.eq_or_lt_of_le hge with e | e
    ·exact e.symm
    ·rw [List.getElem?_eq_none (by simp;omega)] at hq;cases hq
   subst hqe
   simp only [Nat.sub_self,List.getElem?_cons_zero,Option.some.injEq] at hq
   subst hq
   refine ⟨ι,⟨k.keep,λu _=>g.env u,g.new,λi hi h=>k.gone _ (hb i hi) h,λi j hi ha hj ht=>?_⟩,t,H,by rw [← g.hlen,List.getElem?_append_right (Nat.le_refl _)];simp,g.vs⟩
   rw [← g.hlen,List.drop_append_of_le_length (Nat.le_refl _),List.drop_length,List.nil_append,om] at ht
   exact k.tch i j (by have:=g.len;omega) ha ((g.le0 i hi).1 j hj).1 ht.1
theorem K8:∀ {al:List Nat} {m:Nat},Dn H base al=true→rV al m=true→∃ c sl,dh H (base+m)=some (.cells c false sl)
 | [],m,_,h=>by simp [rV] at h
 | a::r,m,ht,h=>by
  simp only [Dn] at ht
  split at ht
  case h_2=>cases ht
  rename_i c sl hg
  rcases List.mem_cons.1 (za.1 h) with e | e
  ·exact ⟨c,sl,e ▸ hg⟩
  ·exact K8 ht (za.2 e)
theorem DI.owns (g:DI R base dU nk qF M0 ι H M l lA bt al hs iQ) (ht:Dn H base al=true) {b:Nat} (h1:dU≤b) (h2:b < dU+nk):own ι b:=by
 have e:dU+(b - dU)=b:=by omega
 refine ⟨base+(b - dU),by rw [g.new _ (by omega),e], ?_⟩
 cases ha:rV al (b - dU) with
 | false=>exact (g.free _ (by omega) ha).1
 | true =>
  obtain ⟨c,sl,hg⟩:=K8 ht ha
  cases hgo:ι.gone (base+(b - dU)) with
  | false=>rfl
  | true=>exact absurd hg (g.vs.yN _ hgo c sl)
theorem DI.owned (g:DI R base dU nk qF M0 ι H M l lA bt al hs iQ) {lo:Nat} (ht:(Dn H base al || Hu hs lo base al)=true) {b:Nat} (h1:dU≤b) (h2:b < dU+nk) :
  own ι b∨∃ k Mk vR,lo≤k∧iQ[k]?=some Mk∧HK R base dU nk k qF ι H M l lA bt hs Mk vR∧own vR b:=by
 rcases Bool.or_eq_true_iff.1 ht with ht | ht
 ·exact .inl (g.owns ht h1 h2)
 have e:dU+(b - dU)=b:=by omega
 cases ha:rV al (b - dU) with
 | false=>exact .inl ⟨base+(b - dU),by rw [g.new _ (by omega),e],(g.free _ (by omega) ha).1⟩
 | true =>
  right
  unfold Hu at ht
  split at ht
  case h_2=>cases ht
  rename_i tk Hk rest hd
  have hk:hs[lo]?=some (tk,Hk):=by
   have:(hs.drop lo)[0]?=some (tk,Hk):=by rw [hd];rfl
   rw [List.getElem?_drop] at this
   exact this
  have hl:lo < iQ.length:=by rw [← g.hlen];exact (List.getElem?_eq_some_iff.1 hk).1
  obtain ⟨vR,w,t',Hk',w2,w3⟩:=g.hist lo iQ[lo] (List.getElem?_eq_getElem hl)
  rw [hk] at w2
  cases w2
  obtain ⟨c,sl,hg⟩:=K8 ht ha
  refine ⟨lo,_,vR,Nat.le_refl _,List.getElem?_eq_getElem hl,w,base+(b - dU),by rw [w.new _ (by omega),e], ?_⟩
  cases hgo:vR.gone (base+(b - dU)) with
  | false=>rfl
  | true=>exact absurd hg (w3.yN _ hgo c sl)
theorem Em {X:Heap} {b:Nat} (h:¬ (dU≤b∧b < dU+nk)):(X.hide dU nk).get b=X.get b:=by
 simp only [Heap.hide]
 rw [if_neg h]
theorem JM {g:Bool} {n b o:Nat} {X Y:Heap} (h:X.get b=Y.get b):Cv g n (.ptr (some (b,o))) X=Cv g n (.ptr (some (b,o))) Y:=by
 simp only [Cv,Heap.read,h]
theorem Kt {sz len cap:Nat} {ex:Bool} {b o:Nat} {X Y:Heap} (h:len≠0→X.get b=Y.get b):rJ (.slice (some (b,o)) sz len cap ex) X=rJ (.slice (some (b,o)) sz len cap ex) Y:=by
 unfold rJ
 split<;>first | rfl | skip
 rename_i e
 cases e
 split
 ·rfl
 ·rename_i hl
  simp only [Heap.read,h hl]
theorem aiu (g:DI R base dU nk qF M0 ι H M l lA bt al hs iQ) {o:yt} (hc:o.bB=true) {v u:AV} (hv:wL (o.sub (look l)) H=some v) (hu:∀ (M:Heap) (O:Nat→Prop) (κ:VI) (a:AV),VL M O κ v a→VL M O κ u a) {lo:Nat} (hok:RG base al l bt lo o u H hs=true) :
  ∃ a,aL (o.sub (look lA)) [] (M.hide dU nk)=some a∧VL M (OR R ι) ι u a∧∀ k Mk,lo≤k→iQ[k]?=some Mk→∃ w,aL (o.sub (look lA)) [] (Mk.hide dU nk)=some w∧AV.same w a=true:=by
 obtain ⟨a,h1,h2⟩:=Vn g.vs g.env hc hv
 have h3:=hu _ _ _ _ h2
 -- all read the same
 have fin:known u=true→(∀ X,(X=M∨∃ k,lo≤k∧iQ[k]?=some X)→aL (o.sub (look lA)) [] (X.hide dU nk)=aL (o.sub (look lA)) [] M)→∃ a,aL (o.sub (look lA)) [] (M.hide dU nk)=some a∧VL M (OR R ι) ι u a∧∀ k Mk,lo≤k→iQ[k]?=some Mk→∃ w,aL (o.sub (look lA)) [] (Mk.hide dU nk)=some w∧AV.same w a=true :=
  λhkn hX=>⟨a,(hX M (.inl rfl)).trans h1,h3,λk Mk hk hM=>⟨a,(hX Mk (.inr ⟨k,hk,hM⟩)).trans h1,VL.ze u a hkn h3⟩⟩
 unfold RG at hok
 -- a list
 have lst:∀ (t:Nat),nI bt (.t t)=Ht bt o→Nat.ble (Ht bt o) lo=true→(Dn H base al=true∨Ht bt o=0) →
   ∀ (P:Heap→(Nat→Prop)→VI→Nat→Prop),(∀ M O κ,VL M O κ (look l t) (look lA t)→∃ b,P M O κ b)→True:=λ_ _ _ _ _ _=>trivial
 cases o with
 | load ag n x =>
  cases x with
  | c w=>simp [Ym] at hok
  | t t =>
   simp only [Ym,Ht,nI] at hok
   simp only [yt.sub,AX.sub,aL,AX.ev] at fin h1 ⊢
   have e0:=g.env t
   generalize hX:look l t=X at *
   cases X with
   | elem cs =>
    simp only at hok
    have hkn:known u=true:=by
     split at hok
     ·assumption
     ·assumption
     ·cases hok
    have hb:og bt t≤lo+1:=by
     split at hok
     ·rename_i h _ _;exact Nat.le_of_ble_eq_true h
     ·rename_i h _ _;exact Nat.le_of_ble_eq_true h
     ·cases hok
    have hth:(Dn H base al || Hu hs lo base al)=true∨og bt t=0:=by
     split at hok
     ·exact .inl (by assumption)
     ·exact .inr (Nat.eq_of_beq_eq_true hok)
     ·cases hok
    simp only [VL] at e0
    obtain ⟨b,off,c,ro,sl,e1,g1,g2,g3,g4⟩:=e0
    have hout:¬ (dU≤b∧b < dU+nk):=λ⟨q1,q2⟩=>by
     rcases hth with ht | h0
     ·rcases g.owned ht q1 q2 with o | ⟨k,Mk,vR,hk,_,w,o⟩
      ·exact g2 (.inl o)
      ·have:=w.env t (by omega)
       rw [hX] at this
       simp only [VL] at this
       obtain ⟨b',_,_,_,_,e2,_,p2,_⟩:=this
       rw [e1] at e2
       simp only [AV.ptr.injEq,Option.some.injEq,Prod.mk.injEq] at e2
       rw [← e2.1] at p2
       exact p2 (.inl o)
     ·have:=g.start t h0
      rw [hX] at this
      simp only [VL] at this
      obtain ⟨b',_,_,_,_,e2,_,_,p3,_⟩:=this
      rw [e1] at e2
      simp only [AV.ptr.injEq,Option.some.injEq,Prod.mk.injEq] at e2
      rw [← e2.1,g.m0] at p3
      omega
    refine fin hkn λX hX'=>?_
    rw [e1]
    refine JM ((Em hout).trans ?_)
    rcases hX' with rfl | ⟨k,hk,hM⟩
    ·rfl
    ·obtain ⟨vR,w,_⟩:=g.hist k X hM
     have:=w.env t (by omega)
     rw [hX] at this
     simp only [VL] at this
     obtain ⟨b',_,_,_,_,e2,_,p2,p3,_⟩:=this
     rw [e1] at e2
     simp only [AV.ptr.injEq,Option.some.injEq,Prod.mk.injEq] at e2
     rw [← e2.1] at p2 p3
     exact (w.keep.get b p3 (λh=>p2 (.inl h))).1.symm
   | ptr p =>
    cases p with
    | none=>simp at hok
    | some q =>
     simp only at hok
     split at hok
     case h_2=>cases hok
     rename_i hkn hlt hto
     have hlt:q.1 < base:=by simpa [Nat.blt_eq] using hlt
     simp only [VL] at e0
     obtain ⟨j,k1,k2⟩:=e0
     rw [g.to0 _ hlt] at k1
     have hj:=(g.low _ _ k1).2
     have hact:act ι H q.1:=by
      simp only [yt.sub,AX.sub,wL,AX.ev,hX] at hv
      split at hv
      ·cases hv
      split at hv
      ·rename_i hg
       exact .inl ⟨_,hg⟩
      ·cases hv
     refine fin hkn λX hX'=>?_
     rw [k2]
     refine JM ((Em (by omega)).trans ?_)
     rcases hX' with rfl | ⟨k,hk,hM⟩
     ·rfl
     ·obtain ⟨vR,w,_⟩:=g.hist k X hM
      refine (w.same q.1 j hlt hact k1 ?_).symm
      have:hs.drop k=(hs.drop lo).drop (k - lo):=by rw [List.drop_drop];congr 1;omega
      rw [this]
      have mono:∀ (r:List (List Nat×WH)) (n:Nat),touches q.1 r=false→touches q.1 (r.drop n)=false:=by
       intro r
       induction r with
       | nil=>intro n _;simp [touches]
       | cons u r ih =>
        intro n h
        cases n with
        | zero=>exact h
        | succ n=>exact ih n (om.1 h).2
      exact mono _ _ hto
   | _=>simp at hok
 | jY x =>
  cases x with
  | c w=>simp [Ym] at hok
  | t t =>
   simp only [Ym,Ht,nI] at hok
   simp only [yt.sub,AX.sub,aL,AX.ev] at fin h1 ⊢
   have e0:=g.env t
   generalize hX:look l t=X at *
   cases X with
   | list sz len cs ex =>
    simp only at hok
    have hkn:known u=true:=by
     split at hok
     ·assumption
     ·assumption
     ·cases hok
    have hb:og bt t≤lo+1:=by
     split at hok
     ·rename_i h _ _;exact Nat.le_of_ble_eq_true h
     ·rename_i h _ _;exact Nat.le_of_ble_eq_true h
     ·cases hok
    have hth:(Dn H base al || Hu hs lo base al)=true∨og bt t=0:=by
     split at hok
     ·exact .inl (by assumption)
     ·exact .inr (Nat.eq_of_beq_eq_true hok)
     ·cases hok
    simp only [VL] at e0
    rcases e0 with ⟨_,_,s',e1⟩ | ⟨b,off,cap,ex',e1,_,_,_,q4⟩
    ·exact fin hkn λX _=>by rw [e1];rfl
    refine fin hkn λX hX'=>?_
    rw [e1]
    refine Kt λhl=>?_
    obtain ⟨c,ro,sl,g1,g2,g3,g4,g5⟩:=q4 hl
    have hout:¬ (dU≤b∧b < dU+nk):=λ⟨q1,q2⟩=>by
     rcases hth with ht | h0
     ·rcases g.owned ht q1 q2 with o | ⟨k,Mk,vR,hk,_,w,o⟩
      ·exact g2 (.inl o)
      ·have:=w.env t (by omega)
       rw [hX] at this
       simp only [VL] at this
       rcases this with ⟨_,_,s',e2⟩ | ⟨b',_,_,_,e2,_,_,_,p4⟩
       ·rw [e1] at e2;cases e2
       ·rw [e1] at e2
        cases e2
        obtain ⟨_,_,_,_,p2,_⟩:=p4 hl
        exact p2 (.inl o)
     ·have:=g.start t h0
      rw [hX] at this
      simp only [VL] at this
      rcases this with ⟨_,_,s',e2⟩ | ⟨b',_,_,_,e2,_,_,_,p4⟩
      ·rw [e1] at e2;cases e2
      ·rw [e1] at e2
       cases e2
       obtain ⟨_,_,_,_,_,p3,_⟩:=p4 hl
       rw [g.m0] at p3
       omega
    refine (Em hout).trans ?_
    rcases hX' with rfl | ⟨k,hk,hM⟩
    ·rfl
    ·obtain ⟨vR,w,_⟩:=g.hist k X hM
     have:=w.env t (by omega)
     rw [hX] at this
     simp only [VL] at this
     rcases this with ⟨_,_,s',e2⟩ | ⟨b',_,_,_,e2,_,_,_,p4⟩
     ·rw [e1] at e2;cases e2
     ·rw [e1] at e2
      cases e2
      obtain ⟨_,_,_,_,p2,p3,_⟩:=p4 hl
      exact (w.keep.get b p3 (λh=>p2 (.inl h))).1.symm
   | slice p sz len cap ex =>
    cases p with
    | some q=>simp [VL] at e0
    | none =>
     simp only at hok
     have hkn:known u=true:=by
      split at hok
      ·assumption
      ·assumption
      ·cases hok
     simp only [VL] at e0
     obtain ⟨_,s',e1⟩:=e0
     exact fin hkn λX _=>by rw [e1];rfl
   | acc b off sz n w =>
    simp only at hok
    split at hok
    case h_2=>cases hok
    rename_i hkn hlt hto
    have hlt:b < base:=by simpa [Nat.blt_eq] using hlt
    simp only [VL] at e0
    obtain ⟨p,s',cap,ex,k2,k3,k4,k5,m,L,k6,k7,k8,k9⟩:=e0
    have hact:act ι H b:=by
     simp only [yt.sub,AX.sub,wL,AX.ev,hX] at hv
     split at hv
     ·rename_i e;cases e
     ·rename_i e
      cases e
      split at hv
      ·rename_i hg
       exact .inl ⟨_,hg⟩
      ·cases hv
     ·rename_i e;cases e
     ·cases hv
    refine fin hkn λX hX'=>?_
    rw [k2]
    cases p with
    | none=>rfl
    | some p =>
     refine Kt λhl=>?_
     have k9:=k9.resolve_right (λh=>hl h.2.1)
     obtain ⟨j,k1,k10⟩:=k9
     rw [g.to0 _ hlt] at k1
     have k10:=k10.resolve_right (λh=>hl h.1)
     have hpj:p.1=j:=by
      have:=k10.1
      simp only [Option.some.injEq] at this
      rw [this]
     have hj:=(g.low _ _ k1).2
     rw [hpj]
     refine (Em (by omega)).trans ?_
     rcases hX' with rfl | ⟨k,hk,hM⟩
     ·rfl
     ·obtain ⟨vR,w',_⟩:=g.hist k X hM
      refine (w'.same b j hlt hact k1 ?_).symm
      have:hs.drop k=(hs.drop lo).drop (k - lo):=by rw [List.drop_drop];congr 1;omega
      rw [this]
      have mono:∀ (r:List (List Nat×WH)) (n:Nat),touches b r=false→touches b (r.drop n)=false:=by
       intro r
       induction r with
       | nil=>intro n _;simp [touches]
       | cons u r ih =>
        intro n h
        cases n with
        | zero=>exact h
        | succ n=>exact ih n (om.1 h).2
      exact mono _ _ hto
   | _=>simp at hok
 | Fg x=>simp [Ym] at hok
 | lookup ok z x w=>simp [Ym] at hok
theorem K9 {o:yt} {x:Option AV} {k:TS→Prop}:∀ {hs:List (List Nat×WH)} {tr:TS},Ml o x k hs tr→∃ jP,(∀ (i:Nat) (t:List Nat) (Hk:WH),hs[i]?=some (t,Hk)→wL o Hk=x)∧k jP
 | [],tr,h=>⟨tr,λi t Hk e=>by simp at e,h⟩
 | p::r,tr,h=>by
  simp only [Ml] at h
  obtain ⟨_,h1,h2⟩:=lC h
  obtain ⟨jP,q1,q2⟩:=K9 h2
  refine ⟨jP,λi t Hk e=>?_,q2⟩
  cases i with
  | zero=>simp only [List.getElem?_cons_zero,Option.some.injEq] at e;rw [e] at h1;exact h1
  | succ i=>exact q1 i t Hk (by simpa using e)
theorem aax (g:DI R base dU nk qF M0 ι H M l lA bt al hs iQ) {o:yt} (hc:o.bB=true) {v u:AV} (hv:wL (o.sub (look l)) H=some v) (hu:∀ (M:Heap) (O:Nat→Prop) (κ:VI) (a:AV),VL M O κ v a→VL M O κ u a) {lo:Nat} (hok:Hw base l bt lo o u=true)
  (hl:∀ (i:Nat) (t:List Nat) (Hk:WH),(hs.drop lo)[i]?=some (t,Hk)→wL (o.sub (look l)) Hk=wL (o.sub (look l)) H) :
  ∃ a,aL (o.sub (look lA)) [] (M.hide dU nk)=some a∧VL M (OR R ι) ι u a∧∀ k Mk,lo≤k→iQ[k]?=some Mk→∃ w,aL (o.sub (look lA)) [] (Mk.hide dU nk)=some w∧AV.same w a=true:=by
 obtain ⟨a,h1,h2⟩:=Vn g.vs g.env hc hv
 have h3:=hu _ _ _ _ h2
 have rig:∀ {M':Heap} {O:Nat→Prop} {κ:VI} {w:AV},Hw base l bt lo o u=true→VL M' O κ u w→w=a:=by
  intro M' O κ w hb hw
  unfold Hw at hb
  split at hb
  case h_2=>cases hb
  split at hb
  ·simp only [VL] at hw h3;rw [hw,h3]
  ·simp only [VL] at hw h3;rw [hw,h3]
  ·simp only [VL] at hw h3;rw [hw,h3]
  ·cases hb
 have hkn:known u=true:=by
  unfold Hw at hok
  split at hok
  case h_2=>cases hok
  split at hok
  ·rfl
  ·rfl
  ·rfl
  ·cases hok
 cases o with
 | load ag n x =>
  cases x with
  | c w=>simp [Hw] at hok
  | t t =>
   have hp:∃ b off,look l t=.ptr (some (b,off))∧b < base∧og bt t≤lo+1:=by
    simp only [Hw] at hok
    split at hok
    ·rename_i b off _ _ hX
     simp only [Bool.and_eq_true,Nat.blt_eq] at hok
     exact ⟨b,off,hX,hok.1,Nat.le_of_ble_eq_true hok.2⟩
    ·rename_i b off _ hX
     simp only [Bool.and_eq_true,Nat.blt_eq] at hok
     exact ⟨b,off,hX,hok.1,Nat.le_of_ble_eq_true hok.2⟩
    ·rename_i b off _ hX
     simp only [Bool.and_eq_true,Nat.blt_eq] at hok
     exact ⟨b,off,hX,hok.1,Nat.le_of_ble_eq_true hok.2⟩
    ·cases hok
   obtain ⟨b,off,hX,hlt,hbt⟩:=hp
   have e0:=g.env t
   rw [hX] at e0
   simp only [VL] at e0
   obtain ⟨j,k1,k2⟩:=e0
   rw [g.to0 _ hlt] at k1
   have hj:=(g.low _ _ k1).2
   have hide:∀ X:Heap,aL (yt.sub (look lA) (.load ag n (.t t))) [] (X.hide dU nk)=aL (yt.sub (look lA) (.load ag n (.t t))) [] X:=by
    intro X
    simp only [yt.sub,AX.sub,aL,AX.ev]
    rw [k2]
    exact JM (Em (by omega))
   refine ⟨a,(hide M).trans h1,h3,λk Mk hk hM=>?_⟩
   obtain ⟨vR,w,tk,Hk,w2,w3⟩:=g.hist k Mk hM
   have hce:∀ s,VL Mk (OR R vR) vR (JW bt (k+1) (look l) s) (look lA s):=λs=>by
    unfold JW
    split
    ·rename_i hb;exact w.env s hb
    ·simp [VL]
   have hsub:yt.sub (JW bt (k+1) (look l)) (.load ag n (.t t))=yt.sub (look l) (.load ag n (.t t)):=by
    simp only [yt.sub,AX.sub,JW]
    rw [if_pos (by omega)]
   have hv':wL (yt.sub (JW bt (k+1) (look l)) (.load ag n (.t t))) Hk=some v:=by
    rw [hsub,hl (k - lo) tk Hk (by rw [List.getElem?_drop,show lo+(k - lo)=k by omega];exact w2)]
    exact hv
   obtain ⟨w',q1,q2⟩:=Vn w3 hce hc hv'
   have:=rig hok (hu _ _ _ _ q2)
   subst this
   exact ⟨w',(hide Mk).trans q1,VL.ze u w' hkn h3⟩
 | _=>simp [Hw] at hok
theorem aay (g:DI R base dU nk qF M0 ι H M l lA bt al hs iQ) {o:yt} (hc:o.bB=true) {v u a:AV} (hv:wL (o.sub (look l)) H=some v) (hu:∀ (M:Heap) (O:Nat→Prop) (κ:VI) (a:AV),VL M O κ v a→VL M O κ u a) {lo b:Nat} (hok:RG base al l bt lo o u H hs=true)
  (hb:aez l o=some b) (hbt:Nat.ble (Ht bt o) (lo+1)=true) (ha:aL (o.sub (look lA)) [] (M.hide dU nk)=some a)
  (hl:∀ (i:Nat) (t:List Nat) (Hk:WH),(hs.drop lo)[i]?=some (t,Hk)→wL (o.sub (look l)) Hk=wL (o.sub (look l)) H) :
  ∀ k Mk vR t Hk,iQ[k]?=some Mk→HK R base dU nk k qF ι H M l lA bt hs Mk vR→hs[k]?=some (t,Hk)→VS R vR Hk Mk→lo+1≤k+1→VL Mk (OR R vR) vR u a:=by
 intro k Mk vR tk Hk hM w w2 w3 hk
 cases o with
 | load ag n x =>
  cases x with
  | c w=>simp [aez] at hb
  | t t =>
   simp only [Ht,nI] at hbt
   have hbt:=Nat.le_of_ble_eq_true hbt
   unfold RG at hok
   simp only [Ym,Ht,nI] at hok
   simp only [aez] at hb
   have e0:=g.env t
   have hX0:∃ q,look l t=.ptr (some q):=by
    split at hb
    ·rename_i q h;exact ⟨q,h⟩
    ·cases hb
   obtain ⟨q,hX⟩:=hX0
   rw [hX] at hok e0
   simp only at hok
   split at hok
   case h_2=>cases hok
   rename_i hkn hlt hto
   have hlt:q.1 < base:=by simpa [Nat.blt_eq] using hlt
   simp only [VL] at e0
   obtain ⟨j,k1,k2⟩:=e0
   rw [g.to0 _ hlt] at k1
   have hj:=(g.low _ _ k1).2
   have hact:act ι H q.1:=by
    simp only [yt.sub,AX.sub,wL,AX.ev,hX] at hv
    split at hv
    ·cases hv
    split at hv
    ·rename_i hg
     exact .inl ⟨_,hg⟩
    ·cases hv
   have hsame:M.get j=Mk.get j:=by
    refine w.same q.1 j hlt hact k1 ?_
    have:hs.drop k=(hs.drop lo).drop (k - lo):=by rw [List.drop_drop];congr 1;omega
    rw [this]
    have mono:∀ (r:List (List Nat×WH)) (n:Nat),touches q.1 r=false→touches q.1 (r.drop n)=false:=by
     intro r
     induction r with
     | nil=>intro n _;simp [touches]
     | cons u r ih =>
      intro n h
      cases n with
      | zero=>exact h
      | succ n=>exact ih n (om.1 h).2
    exact mono _ _ hto
   have eqk:aL (yt.sub (look lA) (.load ag n (.t t))) [] Mk=aL (yt.sub (look lA) (.load ag n (.t t))) [] (M.hide dU nk):=by
    simp only [yt.sub,AX.sub,aL,AX.ev]
    rw [k2]
    exact JM (hsame.symm.trans (Em (by omega)).symm)
   have hce:∀ s,VL Mk (OR R vR) vR (JW bt (k+1) (look l) s) (look lA s):=λs=>by
    unfold JW
    split
    ·rename_i hb;exact w.env s hb
    ·simp [VL]
   have hsub:yt.sub (JW bt (k+1) (look l)) (.load ag n (.t t))=yt.sub (look l) (.load ag n (.t t)):=by
    simp only [yt.sub,AX.sub,JW]
    rw [if_pos (by omega)]
   have hv':wL (yt.sub (JW bt (k+1) (look l)) (.load ag n (.t t))) Hk=some v:=by
    rw [hsub,hl (k - lo) tk Hk (by rw [List.getElem?_drop,show lo+(k - lo)=k by omega];exact w2)]
    exact hv
   obtain ⟨w',q1,q2⟩:=Vn w3 hce hc hv'
   rw [eqk,ha] at q1
   obtain rfl:=Option.some.inj q1
   exact hu _ _ _ _ q2
 | _=>simp [aez] at hb
end
end Go.Proofs.YtohoggieaanllaaGreat
end
