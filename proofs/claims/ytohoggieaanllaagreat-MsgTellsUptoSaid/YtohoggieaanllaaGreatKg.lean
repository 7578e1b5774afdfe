import Derived.Test.YtohoggieaanllaaGreatKf
set_option linter.all false
set_option linter.unusedSimpArgs false
namespace Go.Proofs.YtohoggieaanllaaGreat
abbrev Xg:=aJ
def Vp {α:Type} (P:α→Prop) (f:Xg→Option (α×Xg)) (p:Pr α):Prop:=∀ b e,b.length < 500000000→(e≠0→∃ x,P x∧f ⟨b,e⟩=some (x,⟨b,e⟩))∧(match p b with
 | .inl er=>∃ x s,P x∧f ⟨b,0⟩=some (x,⟨s,er⟩)∧s.length≤b.length
 | .inr (x,s)=>P x∧f ⟨b,0⟩=some (x,⟨s,0⟩))
theorem Vp.seq {α β:Type} {P:α→Prop} {Q:β→Prop} {f:Xg→Option (α×Xg)} {p:Pr α} {g:α→Xg→Option (β×Xg)} {q:α→Pr β} (h:Vp P f p) (he:Err p) (hs:Shr p) (k:∀ x,P x→Vp Q (g x) (q x)):Vp Q (λr=>(f r).bind λy=>g y.1 y.2) (bH p q):=by
 intro b e hb
 obtain ⟨h1,h2⟩:=h b e hb
 refine ⟨λhee=>?_, ?_⟩
 ·obtain ⟨x,px,hx⟩:=h1 hee
  simp only [hx,Option.bind_some]
  exact (k x px b e hb).1 hee
 ·unfold bH
  cases hp:p b with
  | inl er =>
   rw [hp] at h2
   obtain ⟨x,s,px,hx,hl⟩:=h2
   have hne:er≠0:=by rcases he _ _ hp with rfl | rfl<;>omega
   obtain ⟨y,py,hy⟩:=(k x px s er (by omega)).1 hne
   refine ⟨y,s,py, ?_,hl⟩
   simp only [hx,Option.bind_some]
   exact hy
  | inr y =>
   obtain ⟨x,s⟩:=y
   rw [hp] at h2
   obtain ⟨px,h2⟩:=h2
   have hl:=hs _ _ _ hp
   have h3:=(k x px s 0 (by omega)).2
   simp only [h2,Option.bind_some]
   cases hq:q x s with
   | inl er =>
    rw [hq] at h3
    obtain ⟨z,t,pz,hz,ht⟩:=h3
    exact ⟨z,t,pz,hz,by omega⟩
   | inr z =>
    rw [hq] at h3
    exact h3
theorem Vp.ret {α:Type} (x:α):Vp (λ_=>True) (λr=>some (x,r)) (λb=>.inr (x,b)):=λb e _=>⟨λ_=>⟨x,trivial,rfl⟩,trivial,rfl⟩
theorem ad3 (n:Nat) (hn:n < 1000000) (b:List UInt8) {e:Int} (he:e≠0):dY (n:Int) ⟨b,e⟩=some (List.replicate n 0,⟨b,e⟩):=by
 unfold dY
 rw [jH (aj1 n hn),Int.toNat_natCast]
 simp only
 rw [uV he]
 rfl
theorem ahX (n:Nat) (hn:n < 1000000) (b:List UInt8) (hb:b.length < 500000000):dY (n:Int) ⟨b,0⟩=some (match eH fO n b with
  | .inl e=>(List.replicate n 0,⟨[],e⟩)
  | .inr (l,r)=>(l,⟨r,0⟩)):=by
 unfold dY
 rw [jH (aj1 n hn),Int.toNat_natCast]
 simp only
 rw [xS rfl,cond_true,PO b n (by omega) hn,Option.bind_some]
 cases hp:eH fO n b with
 | inl e =>
  have he:e≠0:=by rcases jk fJ n _ _ hp with rfl | rfl<;>omega
  simp only
  rw [uV he]
  rfl
 | inr y =>
  obtain ⟨l,r⟩:=y
  simp only
  rw [xS rfl]
  rfl
theorem afx (n:Nat) (hn:n < 1000000):Vp (λl:List Int=>l.length=n) (dY (n:Int)) (eH fO n):=by
 intro b e hb
 refine ⟨λhe=>⟨_,by simp,ad3 n hn b he⟩, ?_⟩
 rw [ahX n hn b hb]
 cases hp:eH fO n b with
 | inl e=>exact ⟨List.replicate n 0,[],by simp,rfl,by simp⟩
 | inr y =>
  obtain ⟨l,r⟩:=y
  exact ⟨zm hp,rfl⟩
theorem auw (b:List UInt8):eH fO 1 b=match fO b with
  | .inl e=>.inl e
  | .inr (x,r)=>.inr ([x],r):=by
 simp only [eH,bH]
 cases fO b<;>rfl
theorem Zk (m:Int) (hm:0≤m):Vp (λn:Int=>0≤n∧n≤m) (fq m) (qh m):=by
 intro b e hb
 unfold fq
 rw [show (1:Int)=((1:Nat):Int) from rfl]
 refine ⟨λhe=>⟨0,⟨Int.le_refl _,hm⟩, ?_⟩, ?_⟩
 ·rw [ad3 1 (by omega) b he,Option.bind_some]
  show cond (decide ((0:Int) > m)) _ _=_
  rw [aT (by omega)]
  rfl
 ·rw [ahX 1 (by omega) b hb,Option.bind_some,auw]
  unfold qh bH
  cases hp:fO b with
  | inl er =>
   simp only
   refine ⟨0,[],⟨Int.le_refl _,hm⟩, ?_,by simp⟩
   show cond (decide ((0:Int) > m)) _ _=_
   rw [aT (by omega)]
   rfl
  | inr y =>
   obtain ⟨x,r⟩:=y
   have hx:=aql hp
   have hr:=f_ _ _ _ hp
   simp only
   by_cases c:x≤m
   ·rw [if_pos c]
    refine ⟨⟨hx.1,c⟩, ?_⟩
    show cond (decide (x > m)) _ _=_
    rw [aT (by omega)]
    rfl
   ·rw [if_neg c]
    refine ⟨0,r,⟨Int.le_refl _,hm⟩, ?_,hr⟩
    show cond (decide (x > m)) _ _=_
    rw [bf (by omega)]
    rfl
theorem Hq {α β γ:Type} (p:Pr α) (q:α→Pr β) (r:β→Pr γ):bH (bH p q) r=bH p λx=>bH (q x) r:=by
 funext b
 unfold bH
 cases p b<;>rfl
theorem P7 {α β:Type} (x:α) (r:α→Pr β):bH (λb=>.inr (x,b)) r=r x:=rfl
def mkE (n:List Int) (k:Int):aA:=⟨n.getD 0 0,n.getD 1 0,n.getD 2 0,n.getD 3 0,k==1⟩
theorem aqA:C_=bH (eH fO 4) λn=>bH (qh 1) λk b=>.inr (mkE n k,b):=by
 unfold C_ aj3
 simp only [Hq,P7]
 rfl
def avU (l:List Int) (r:Xg):Option (aA×Xg):=(fq 1 r).bind λ(x2:Int×aJ)=>(bV l 0).bind λ(x3:Int)=>(bV l 1).bind λ(x4:Int)=>(bV l 2).bind λ(x5:Int)=>(bV l 3).bind λ(x6:Int)=>some ((⟨x3,x4,x5,x6,(x2.1==1)⟩:aA),x2.2)
theorem avV:Vp (λ_=>True) iZ C_:=by
 have e:iZ=λr=>(dY ((4:Nat):Int) r).bind λy=>avU y.1 y.2:=rfl
 rw [e,aqA]
 refine Vp.seq (afx 4 (by omega)) (jk fJ 4) (pV f_ 4) λl hl=>?_
 have g:avU l=λr=>(fq 1 r).bind λy=>some (mkE l y.1,y.2):=by
  funext r
  unfold avU
  have n0:=nL (0:Int) hl 0 (by omega)
  have n1:=nL (0:Int) hl 1 (by omega)
  have n2:=nL (0:Int) hl 2 (by omega)
  have n3:=nL (0:Int) hl 3 (by omega)
  rw [show ((0:Nat):Int)=0 from rfl] at n0
  rw [show ((1:Nat):Int)=1 from rfl] at n1
  rw [show ((2:Nat):Int)=2 from rfl] at n2
  rw [show ((3:Nat):Int)=3 from rfl] at n3
  simp only [n0,n1,n2,n3,Option.bind_some]
  rfl
 rw [g]
 exact Vp.seq (g:=λk r=>some (mkE l k,r)) (q:=λk b=>.inr (mkE l k,b)) (Zk 1 (by omega)) (zn 1) (Dr 1) λk _=>Vp.ret _
theorem akQ:Err aj3:=jc (zn 1) λx b e h=>by cases h
theorem auy:Shr aj3:=pU (Dr 1) λx b y r h=>by
 simp only [Sum.inr.injEq,Prod.mk.injEq] at h
 rw [h.2]
 exact Nat.le_refl _
theorem Vq:Err C_:=jc (jk fJ 4) λx=>jc akQ λy b e h=>by cases h
theorem Zl:Shr C_:=pU (pV f_ 4) λx=>pU auy λz b y r h=>by
 simp only [Sum.inr.injEq,Prod.mk.injEq] at h
 rw [h.2]
 exact Nat.le_refl _
def aqB (r:Xg):Option (aU×Xg):=cond (r.e==0) ((qY r.b).bind λx=>some (x.1,⟨x.2.1,x.2.2⟩)) (some (Ct,r))
def aqC (r:Xg):Option (aB×Xg):=cond (r.e==0) ((jT r.b).bind λx=>some (x.1,⟨x.2.1,x.2.2⟩)) (some (Vl,r))
theorem auz:Vp (λ_=>True) aqB Vk:=by
 intro b e hb
 unfold aqB
 refine ⟨λhe=>⟨Ct,trivial,by simp only;rw [uV he];rfl⟩, ?_⟩
 simp only
 rw [xS rfl,cond_true,acH b (by omega),Option.bind_some]
 cases hp:Vk b with
 | inl e=>exact ⟨Ct,[],trivial,rfl,by simp⟩
 | inr y=>exact ⟨trivial,rfl⟩
theorem auA:Vp (λ_=>True) aqC PX:=by
 intro b e hb
 unfold aqC
 refine ⟨λhe=>⟨Vl,trivial,by simp only;rw [uV he];rfl⟩, ?_⟩
 simp only
 rw [xS rfl,cond_true,RG b (by omega),Option.bind_some]
 cases hp:PX b with
 | inl e=>exact ⟨Vl,[],trivial,rfl,by simp⟩
 | inr y=>exact ⟨trivial,rfl⟩
def YZ (k:Int) (U4:Int×aJ×List aA):Option ((Int×aJ×List aA)⊕((aJ×List aA))) :=
 cond (decide (U4.1 < k)) ((iZ U4.2.1).bind λ(x23:aA×aJ)=>gd (dx 40 (U4.2.2++[x23.1]).length) (some (.inl ((IntKind.i64.wrap (U4.1+1)),x23.2,(U4.2.2++[x23.1]))))) (some (.inr (U4.2.1,U4.2.2)))
def auB (k:Int) (r:Xg):Option (List aA×Xg):=(bQ (YZ k) KK (0,r,[])).bind λz=>some (z.2,z.1)
theorem akR (n:Nat) (hn:n≤5):∀ (j k:Nat) (acc:List aA),j≤n→acc.length=n - j→j < k →
  Vp (λ_=>True) (λr=>(bQ (YZ (n:Int)) k (((n - j:Nat):Int),r,acc)).bind λz=>some (z.2,z.1)) (bH (eH C_ j) λl b=>.inr (acc++l,b))
 | 0,k,acc,_,ha,hk=>by
  obtain ⟨k,rfl⟩:∃ i,k=i+1:=⟨k - 1,by omega⟩
  have e:∀ r,YZ (n:Int) (((n - 0:Nat):Int),r,acc)=some (.inr (r,acc)):=λr=>by
   unfold YZ
   simp only
   rw [aT (by omega),cond_false]
  have e2:(λr:Xg=>(bQ (YZ (n:Int)) (k+1) (((n - 0:Nat):Int),r,acc)).bind λz=>some (z.2,z.1))=λr=>some (acc,r):=by
   funext r
   simp only [bQ,e,Option.bind_some]
  have e3:(bH (eH C_ 0) λl b=>(.inr (acc++l,b):Int⊕(List aA×List UInt8)))=λb=>.inr (acc,b):=by
   funext b
   simp only [eH,bH,List.append_nil]
  rw [e2,e3]
  exact Vp.ret acc
 | j+1,k,acc,hj,ha,hk=>by
  obtain ⟨k,rfl⟩:∃ i,k=i+1:=⟨k - 1,by omega⟩
  have e2:(λr:Xg=>(bQ (YZ (n:Int)) (k+1) (((n - (j+1):Nat):Int),r,acc)).bind λz=>some (z.2,z.1))=λr=>(iZ r).bind λy=>(bQ (YZ (n:Int)) k (((n - j:Nat):Int),y.2,acc++[y.1])).bind λz=>some (z.2,z.1):=by
   funext r
   have e:YZ (n:Int) (((n - (j+1):Nat):Int),r,acc)=(iZ r).bind λx23=>some (.inl (((n - j:Nat):Int),x23.2,acc++[x23.1])):=by
    unfold YZ
    simp only
    rw [bf (by omega),cond_true,bM (by omega) (by omega),show ((n - (j+1):Nat):Int)+1=((n - j:Nat):Int) by omega]
    congr 1
    funext x23
    rw [jH (by unfold dx;simp;omega)]
   simp only [bQ,e]
   cases iZ r<;>rfl
  have e3:(bH (eH C_ (j+1)) λl b=>(.inr (acc++l,b):Int⊕(List aA×List UInt8)))=bH C_ λx=>bH (eH C_ j) λl b=>.inr (acc++[x]++l,b):=by
   simp only [eH,Hq,P7,List.append_assoc,List.singleton_append]
  rw [e2,e3]
  exact Vp.seq (g:=λx r=>(bQ (YZ (n:Int)) k (((n - j:Nat):Int),r,acc++[x])).bind λz=>some (z.2,z.1)) avV Vq Zl λx _=>akR n hn j k (acc++[x]) (by omega) (by simp;omega) (by omega)
theorem avW (n:Nat) (hn:n≤5):Vp (λ_=>True) (auB (n:Int)) (eH C_ n):=by
 have h:=akR n hn n KK [] (Nat.le_refl _) (by simp) (by have:=kr;omega)
 rw [Nat.sub_self] at h
 have e:(bH (eH C_ n) λl b=>(.inr ([]++l,b):Int⊕(List aA×List UInt8)))=eH C_ n:=by
  funext b
  unfold bH
  cases eH C_ n b<;>rfl
 rw [e] at h
 exact h
def m8 (n:List Int) (d:Bool) (q:aU) (a:aB) (p:List Int) (t:List aA) (r:Xg):Option (aM×Xg) :=
 cond (r.e==0) ((mP r.b).bind λjd=>some (mkM n d q a p t jd.1,⟨jd.2.1,jd.2.2⟩)) (some (mkM n d q a p t akP,r))
def m7 (n:List Int) (d:Bool) (q:aU) (a:aB) (p:List Int) (k:Int) (r:Xg):=(auB k r).bind λy=>m8 n d q a p y.1 y.2
def m6 (n:List Int) (d:Bool) (q:aU) (a:aB) (p:List Int) (r:Xg):=(fq 5 r).bind λy=>m7 n d q a p y.1 y.2
def m5 (n:List Int) (d:Bool) (q:aU) (a:aB) (c:Int) (r:Xg):=(dY c r).bind λy=>m6 n d q a y.1 y.2
def m4 (n:List Int) (d:Bool) (q:aU) (a:aB) (r:Xg):=(fq 5 r).bind λy=>m5 n d q a y.1 y.2
def m3 (n:List Int) (d:Bool) (q:aU) (r:Xg):=(aqC r).bind λy=>m4 n d q y.1 y.2
def m2 (n:List Int) (d:Bool) (r:Xg):=(aqB r).bind λy=>m3 n d y.1 y.2
def m1 (n:List Int) (r:Xg):=(fq 1 r).bind λy=>m2 n (y.1==1) y.2
theorem axQ (n:List Int) (d:Bool) (q:aU) (a:aB) (p:List Int) (t:List aA):Vp (λ_=>True) (m8 n d q a p t) (bH PY λx b=>.inr (mkM n d q a p t x,b)):=by
 intro b e hb
 unfold m8
 refine ⟨λhe=>⟨_,trivial,by simp only;rw [uV he];rfl⟩, ?_⟩
 simp only
 rw [xS rfl,cond_true,YX b (by omega),Option.bind_some]
 unfold bH
 cases hp:PY b with
 | inl e=>exact ⟨_,[],trivial,rfl,by simp⟩
 | inr y=>exact ⟨trivial,rfl⟩
theorem axR (n:List Int):Vp (λ_=>True) (m1 n) (bH (qh 1) λk=>bH Vk λq=>bH PX λa=>bH (qh 5) λc=>bH (eH fO c.toNat) λp=>bH (qh 5) λk2=>bH (eH C_ k2.toNat) λt=>bH PY λx b=>.inr (mkM n (k==1) q a p t x,b)):=by
 refine Vp.seq (g:=λk r=>m2 n (k==1) r) (Zk 1 (by omega)) (zn 1) (Dr 1) λk _=>?_
 refine Vp.seq (g:=λq r=>m3 n (k==1) q r) auz aft akN λq _=>?_
 refine Vp.seq (g:=λa r=>m4 n (k==1) q a r) auA Vm Zj λa _=>?_
 refine Vp.seq (g:=λc r=>m5 n (k==1) q a c r) (Zk 5 (by omega)) (zn 5) (Dr 5) λc hc=>?_
 have h1:=afx c.toNat (by omega)
 rw [Int.toNat_of_nonneg hc.1] at h1
 refine Vp.seq (g:=λp r=>m6 n (k==1) q a p r) h1 (jk fJ _) (pV f_ _) λp _=>?_
 refine Vp.seq (g:=λc r=>m7 n (k==1) q a p c r) (Zk 5 (by omega)) (zn 5) (Dr 5) λk2 hk=>?_
 have h2:=avW k2.toNat (by omega)
 rw [Int.toNat_of_nonneg hk.1] at h2
 exact Vp.seq (g:=λt r=>m8 n (k==1) q a p t r) h2 (jk Vq _) (pV Zl _) λt _=>axQ _ _ _ _ _ _
def m0 (l:List Int) (r:Xg):Option (aM×Xg):=(bV l 0).bind λ(x2:Int)=>(bV l 1).bind λ(x3:Int)=>(bV l 2).bind λ(x4:Int)=>(bV l 3).bind λ(x5:Int)=>(bV l 4).bind λ(x6:Int)=>(bV l 5).bind λ(x7:Int)=>(bV l 6).bind λ(x8:Int)=>(bV l 7).bind λ(x9:Int)=>(fq 1 r).bind λ(x10:Int×aJ)=>(jr x10 x2 x3 x4 x5 x6 x7 x8 x9).bind λ(dD:(aJ×Int×Int×Int×List UInt8×List UInt8×List UInt8))=>(jv dD x2 x3 x4 x5 x6 x7 x8 x9 x10).bind λ(m_:(aJ×Int×List UInt8))=>(fq 5 m_.1).bind λ(bX:Int×aJ)=>(dY bX.1 bX.2).bind λ(mE:List Int×aJ)=>(fq 5 mE.2).bind λ(jP:Int×aJ)=>(pK jP x2 x3 x4 x5 x6 x7 x8 x9 x10 dD m_ mE (0,jP.2,[])).bind λ(x25:(aJ×List aA))=>cond (x25.1.e==0) ((mP x25.1.b).bind λ(jd:aC×List UInt8×Int)=>some ((⟨x2,x3,x4,x5,x6,x7,x8,x9,(x10.1==1),(⟨dD.2.1,dD.2.2.1,(⟨dD.2.2.2.1,dD.2.2.2.2.1,dD.2.2.2.2.2.1,dD.2.2.2.2.2.2⟩:bE)⟩:aU),(⟨m_.2.1,m_.2.2⟩:aB),mE.1,x25.2,jd.1⟩:aM),(⟨jd.2.1,jd.2.2⟩:aJ))) (some ((⟨x2,x3,x4,x5,x6,x7,x8,x9,(x10.1==1),(⟨dD.2.1,dD.2.2.1,(⟨dD.2.2.2.1,dD.2.2.2.2.1,dD.2.2.2.2.2.1,dD.2.2.2.2.2.2⟩:bE)⟩:aU),(⟨m_.2.1,m_.2.2⟩:aB),mE.1,x25.2,(⟨0,0,[],[]⟩:aC)⟩:aM),x25.1))
theorem avX (x10:Int×aJ) (x2 x3 x4 x5 x6 x7 x8 x9:Int):jr x10 x2 x3 x4 x5 x6 x7 x8 x9=(aqB x10.2).bind λy=>some (y.2,y.1.Client,y.1.Seq,y.1.Op.Kind,y.1.Op.Key,y.1.Op.Value,y.1.Op.Old):=by
 unfold jr aqB
 cases (x10.2.e==0)
 ·rfl
 ·simp only [cond_true]
  cases qY x10.2.b<;>rfl
theorem avY (dD:(aJ×Int×Int×Int×List UInt8×List UInt8×List UInt8)) (x2 x3 x4 x5 x6 x7 x8 x9:Int) (x10:Int×aJ):jv dD x2 x3 x4 x5 x6 x7 x8 x9 x10=(aqC dD.1).bind λy=>some (y.2,y.1.Why,y.1.Value):=by
 unfold jv aqC
 cases (dD.1.e==0)
 ·rfl
 ·simp only [cond_true]
  cases jT dD.1.b<;>rfl
theorem avZ (jP:Int×aJ) (x2 x3 x4 x5 x6 x7 x8 x9:Int) (x10:Int×aJ) (dD:(aJ×Int×Int×Int×List UInt8×List UInt8×List UInt8)) (m_:(aJ×Int×List UInt8)) (mE:List Int×aJ):pK jP x2 x3 x4 x5 x6 x7 x8 x9 x10 dD m_ mE (0,jP.2,[])=(auB jP.1 jP.2).bind λz=>some (z.2,z.1):=by
 unfold auB
 show bQ (YZ jP.1) KK (0,jP.2,[])=_
 cases bQ (YZ jP.1) KK (0,jP.2,[])<;>rfl
theorem av0:Vp (λ_=>True) oI Vo:=by
 have e:oI=λr=>(dY ((8:Nat):Int) r).bind λy=>m0 y.1 y.2:=rfl
 have e2:Vo=bH (eH fO 8) λn=>bH (qh 1) λk=>bH Vk λq=>bH PX λa=>bH (qh 5) λc=>bH (eH fO c.toNat) λp=>bH (qh 5) λk2=>bH (eH C_ k2.toNat) λt=>bH PY λx b=>.inr (mkM n (k==1) q a p t x,b):=by
  unfold Vo aj3
  simp only [Hq,P7]
 rw [e,e2]
 refine Vp.seq (afx 8 (by omega)) (jk fJ 8) (pV f_ 8) λl hl=>?_
 have g:m0 l=m1 l:=by
  funext r
  unfold m0
  have n0:=nL (0:Int) hl 0 (by omega)
  have n1:=nL (0:Int) hl 1 (by omega)
  have n2:=nL (0:Int) hl 2 (by omega)
  have n3:=nL (0:Int) hl 3 (by omega)
  have n4:=nL (0:Int) hl 4 (by omega)
  have n5:=nL (0:Int) hl 5 (by omega)
  have n6:=nL (0:Int) hl 6 (by omega)
  have n7:=nL (0:Int) hl 7 (by omega)
  rw [show ((0:Nat):Int)=0 from rfl] at n0
  rw [show ((1:Nat):Int)=1 from rfl] at n1
  rw [show ((2:Nat):Int)=2 from rfl] at n2
  rw [show ((3:Nat):Int)=3 from rfl] at n3
  rw [show ((4:Nat):Int)=4 from rfl] at n4
  rw [show ((5:Nat):Int)=5 from rfl] at n5
  rw [show ((6:Nat):Int)=6 from rfl] at n6
  rw [show ((7:Nat):Int)=7 from rfl] at n7
  simp only [n0,n1,n2,n3,n4,n5,n6,n7,Option.bind_some,avX,avY,avZ,Option.bind_assoc]
  rfl
 rw [g]
 exact axR l
def akS:aM:=⟨0,0,0,0,0,0,0,0,false,Ct,Vl,[],[],akP⟩
def XZ (b:List UInt8):aM×Int:=match Vo b with
 | .inl e=>(akS,e)
 | .inr (r,s)=>if s.length=0∧sD r=true then (r,0) else (akS,2)
theorem akT:Err Vo:=by
 unfold Vo
 exact jc (jk fJ 8) λn=>jc akQ λd=>jc aft λq=>jc Vm λa=>jc (zn 5) λc=>jc (jk fJ _) λp=>jc (zn 5) λk=>jc (jk Vq _) λt=>jc akO λx b e h=>by cases h
theorem abz {α β:Type} {P:β→Prop} {C:α→Prop} {p:Pr α} {q:α→Pr β} (hp:∀ b x r,p b=.inr (x,r)→C x) (hq:∀ x,C x→∀ b y r,q x b=.inr (y,r)→P y):∀ b y r,bH p q b=.inr (y,r)→P y:=by
 intro b y r h
 unfold bH at h
 split at h
 ·cases h
 ·rename_i x c hx
  exact hq _ (hp _ _ _ hx) _ _ _ h
theorem abA:∀ b x r,Vo b=.inr (x,r)→EM x:=by
 unfold Vo
 refine Ca λn=>Ca λd=>Ca λq=>Ca λa=>?_
 refine abz (C:=λc=>0≤c∧c≤5) (λb x r h=>abt h) λc hc=>?_
 refine abz (C:=λp:List Int=>p.length=c.toNat) (λb x r h=>zm h) λp hp=>?_
 refine abz (C:=λc=>0≤c∧c≤5) (λb x r h=>abt h) λk hk=>?_
 refine abz (C:=λp:List aA=>p.length=k.toNat) (λb x r h=>zm h) λt ht=>?_
 refine abz (C:=λx=>kH x=true) avT λx hx b y r h=>?_
 simp only [Sum.inr.injEq,Prod.mk.injEq] at h
 rw [← h.1]
 have:=FJ hx
 exact ⟨show p.length < _ by omega,show t.length < _ by omega,show x.Pairs.length < _ by omega,show x.dN.length < _ by omega⟩
theorem aqD (b:List UInt8) (hb:b.length < 500000000):KZ b=some (XZ b):=by
 unfold KZ XZ
 have h:=(av0 b 0 hb).2
 cases hp:Vo b with
 | inl er =>
  have he:er≠0:=by rcases akT _ _ hp with rfl | rfl<;>omega
  rw [hp] at h
  obtain ⟨x,s,_,h,_⟩:=h
  rw [h,Option.bind_some]
  unfold Eh Ef
  simp only
  rw [uV he]
  simp only [cond_false,Option.bind_some]
  rw [mD he]
  rfl
 | inr y =>
  obtain ⟨x,s⟩:=y
  rw [hp] at h
  simp only at h
  rw [h.2,Option.bind_some]
  unfold Eh Ef
  simp only
  rw [xS rfl,Xf x (abA _ _ _ hp)]
  simp only [cond_true,Option.bind_some]
  by_cases c:s.length=0
  ·rw [aT (by omega),cond_false]
   cases hc:sD x
   ·rw [if_neg (by simp)];rfl
   ·rw [if_pos ⟨c,rfl⟩];rfl
  ·rw [bf (by omega),if_neg (by rintro ⟨p,_⟩;exact c p)]
   rfl
end Go.Proofs.YtohoggieaanllaaGreat
