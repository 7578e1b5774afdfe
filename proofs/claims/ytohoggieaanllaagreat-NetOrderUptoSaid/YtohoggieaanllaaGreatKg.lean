import Derived.Test.YtohoggieaanllaaGreatKf
set_option linter.all false
set_option linter.unusedSimpArgs false
namespace Go.Proofs.YtohoggieaanllaaGreat
abbrev Wm:=aI
def UG {α:Type} (P:α→Prop) (f:Wm→Option (α×Wm)) (p:Pr α):Prop:=∀ b e,b.length < 500000000→(e≠0→∃ x,P x∧f ⟨b,e⟩=some (x,⟨b,e⟩))∧(match p b with
 | .inl er=>∃ x s,P x∧f ⟨b,0⟩=some (x,⟨s,er⟩)∧s.length≤b.length
 | .inr (x,s)=>P x∧f ⟨b,0⟩=some (x,⟨s,0⟩))
theorem UG.seq {α β:Type} {P:α→Prop} {Q:β→Prop} {f:Wm→Option (α×Wm)} {p:Pr α} {g:α→Wm→Option (β×Wm)} {q:α→Pr β} (h:UG P f p) (he:Err p) (hs:Shr p) (k:∀ x,P x→UG Q (g x) (q x)):UG Q (λr=>(f r).bind λy=>g y.1 y.2) (fP p q):=by
 intro b e hb
 obtain ⟨h1,h2⟩:=h b e hb
 refine ⟨λhee=>?_, ?_⟩
 ·obtain ⟨x,px,hx⟩:=h1 hee
  simp only [hx,Option.bind_some]
  exact (k x px b e hb).1 hee
 ·unfold fP
  cases hp:p b with
  | inl er =>
   rw [hp] at h2
   obtain ⟨x,s,px,hx,hl⟩:=h2
   have hne:er≠0:=by rcases he _ _ hp with rfl | rfl<;>omega
   obtain ⟨y,py,hy⟩:=(k x px s er (by omega)).1 hne
   refine ⟨y,s,py, ?_,hl⟩
   simp only [hx,Option.bind_some]
   exact hy
  | inr y =>
   obtain ⟨x,s⟩:=y
   rw [hp] at h2
   obtain ⟨px,h2⟩:=h2
   have hl:=hs _ _ _ hp
   have h3:=(k x px s 0 (by omega)).2
   simp only [h2,Option.bind_some]
   cases hq:q x s with
   | inl er =>
    rw [hq] at h3
    obtain ⟨z,t,pz,hz,ht⟩:=h3
    exact ⟨z,t,pz,hz,by omega⟩
   | inr z =>
    rw [hq] at h3
    exact h3
theorem UG.ret {α:Type} (x:α):UG (λ_=>True) (λr=>some (x,r)) (λb=>.inr (x,b)):=λb e _=>⟨λ_=>⟨x,trivial,rfl⟩,trivial,rfl⟩
theorem adu (n:Nat) (hn:n < 1000000) (b:List UInt8) {e:Int} (he:e≠0):dP (n:Int) ⟨b,e⟩=some (List.replicate n 0,⟨b,e⟩):=by
 unfold dP
 rw [jK (ajx n hn),Int.toNat_natCast]
 simp only
 rw [Hu he]
 rfl
theorem ahs (n:Nat) (hn:n < 1000000) (b:List UInt8) (hb:b.length < 500000000):dP (n:Int) ⟨b,0⟩=some (match gP jZ n b with
  | .inl e=>(List.replicate n 0,⟨[],e⟩)
  | .inr (l,r)=>(l,⟨r,0⟩)):=by
 unfold dP
 rw [jK (ajx n hn),Int.toNat_natCast]
 simp only
 rw [Nw rfl,cond_true,Ph b n (by omega) hn,Option.bind_some]
 cases hp:gP jZ n b with
 | inl e =>
  have he:e≠0:=by rcases iR pX n _ _ hp with rfl | rfl<;>omega
  simp only
  rw [Hu he]
  rfl
 | inr y =>
  obtain ⟨l,r⟩:=y
  simp only
  rw [Nw rfl]
  rfl
theorem aeY (n:Nat) (hn:n < 1000000):UG (λl:List Int=>l.length=n) (dP (n:Int)) (gP jZ n):=by
 intro b e hb
 refine ⟨λhe=>⟨_,by simp,adu n hn b he⟩, ?_⟩
 rw [ahs n hn b hb]
 cases hp:gP jZ n b with
 | inl e=>exact ⟨List.replicate n 0,[],by simp,rfl,by simp⟩
 | inr y =>
  obtain ⟨l,r⟩:=y
  exact ⟨yO hp,rfl⟩
theorem auD (b:List UInt8):gP jZ 1 b=match jZ b with
  | .inl e=>.inl e
  | .inr (x,r)=>.inr ([x],r):=by
 simp only [gP,fP]
 cases jZ b<;>rfl
theorem YB (m:Int) (hm:0≤m):UG (λn:Int=>0≤n∧n≤m) (eG m) (Ei m):=by
 intro b e hb
 unfold eG
 rw [show (1:Int)=((1:Nat):Int) from rfl]
 refine ⟨λhe=>⟨0,⟨Int.le_refl _,hm⟩, ?_⟩, ?_⟩
 ·rw [adu 1 (by omega) b he,Option.bind_some]
  show cond (decide ((0:Int) > m)) _ _=_
  rw [aV (by omega)]
  rfl
 ·rw [ahs 1 (by omega) b hb,Option.bind_some,auD]
  unfold Ei fP
  cases hp:jZ b with
  | inl er =>
   simp only
   refine ⟨0,[],⟨Int.le_refl _,hm⟩, ?_,by simp⟩
   show cond (decide ((0:Int) > m)) _ _=_
   rw [aV (by omega)]
   rfl
  | inr y =>
   obtain ⟨x,r⟩:=y
   have hx:=aqg hp
   have hr:=uo _ _ _ hp
   simp only
   by_cases c:x≤m
   ·rw [if_pos c]
    refine ⟨⟨hx.1,c⟩, ?_⟩
    show cond (decide (x > m)) _ _=_
    rw [aV (by omega)]
    rfl
   ·rw [if_neg c]
    refine ⟨0,r,⟨Int.le_refl _,hm⟩, ?_,hr⟩
    show cond (decide (x > m)) _ _=_
    rw [aZ (by omega)]
    rfl
theorem Sr {α β γ:Type} (p:Pr α) (q:α→Pr β) (r:β→Pr γ):fP (fP p q) r=fP p λx=>fP (q x) r:=by
 funext b
 unfold fP
 cases p b<;>rfl
theorem aaU {α β:Type} (x:α) (r:α→Pr β):fP (λb=>.inr (x,b)) r=r x:=rfl
def mkE (n:List Int) (k:Int):av:=⟨n.getD 0 0,n.getD 1 0,n.getD 2 0,n.getD 3 0,k==1⟩
theorem av2:LC=fP (gP jZ 4) λn=>fP (Ei 1) λk b=>.inr (mkE n k,b):=by
 unfold LC ajy
 simp only [Sr,aaU]
 rfl
def av3 (l:List Int) (r:Wm):Option (av×Wm):=(eG 1 r).bind λ(x2:Int×aI)=>(bO l 0).bind λ(x3:Int)=>(bO l 1).bind λ(x4:Int)=>(bO l 2).bind λ(x5:Int)=>(bO l 3).bind λ(x6:Int)=>some ((⟨x3,x4,x5,x6,(x2.1==1)⟩:av),x2.2)
theorem av4:UG (λ_=>True) iL LC:=by
 have e:iL=λr=>(dP ((4:Nat):Int) r).bind λy=>av3 y.1 y.2:=rfl
 rw [e,av2]
 refine UG.seq (aeY 4 (by omega)) (iR pX 4) (sw uo 4) λl hl=>?_
 have g:av3 l=λr=>(eG 1 r).bind λy=>some (mkE l y.1,y.2):=by
  funext r
  unfold av3
  have n0:=mI (0:Int) hl 0 (by omega)
  have n1:=mI (0:Int) hl 1 (by omega)
  have n2:=mI (0:Int) hl 2 (by omega)
  have n3:=mI (0:Int) hl 3 (by omega)
  rw [show ((0:Nat):Int)=0 from rfl] at n0
  rw [show ((1:Nat):Int)=1 from rfl] at n1
  rw [show ((2:Nat):Int)=2 from rfl] at n2
  rw [show ((3:Nat):Int)=3 from rfl] at n3
  simp only [n0,n1,n2,n3,Option.bind_some]
  rfl
 rw [g]
 exact UG.seq (g:=λk r=>some (mkE l k,r)) (q:=λk b=>.inr (mkE l k,b)) (YB 1 (by omega)) (Bj 1) (LA 1) λk _=>UG.ret _
theorem akv:Err ajy:=iM (Bj 1) λx b e h=>by cases h
theorem auE:Shr ajy:=wZ (LA 1) λx b y r h=>by
 simp only [Sum.inr.injEq,Prod.mk.injEq] at h
 rw [h.2]
 exact Nat.le_refl _
theorem aeZ:Err LC:=iM (iR pX 4) λx=>iM akv λy b e h=>by cases h
theorem akw:Shr LC:=wZ (sw uo 4) λx=>wZ auE λz b y r h=>by
 simp only [Sum.inr.injEq,Prod.mk.injEq] at h
 rw [h.2]
 exact Nat.le_refl _
def aqB (r:Wm):Option (bn×Wm):=cond (r.e==0) ((qh r.b).bind λx=>some (x.1,⟨x.2.1,x.2.2⟩)) (some (Iy,r))
def aqC (r:Wm):Option (aD×Wm):=cond (r.e==0) ((jy r.b).bind λx=>some (x.1,⟨x.2.1,x.2.2⟩)) (some (ahh,r))
theorem auF:UG (λ_=>True) aqB abV:=by
 intro b e hb
 unfold aqB
 refine ⟨λhe=>⟨Iy,trivial,by simp only;rw [Hu he];rfl⟩, ?_⟩
 simp only
 rw [Nw rfl,cond_true,abW b (by omega),Option.bind_some]
 cases hp:abV b with
 | inl e=>exact ⟨Iy,[],trivial,rfl,by simp⟩
 | inr y=>exact ⟨trivial,rfl⟩
theorem auG:UG (λ_=>True) aqC Yd:=by
 intro b e hb
 unfold aqC
 refine ⟨λhe=>⟨ahh,trivial,by simp only;rw [Hu he];rfl⟩, ?_⟩
 simp only
 rw [Nw rfl,cond_true,Q_ b (by omega),Option.bind_some]
 cases hp:Yd b with
 | inl e=>exact ⟨ahh,[],trivial,rfl,by simp⟩
 | inr y=>exact ⟨trivial,rfl⟩
def Yf (k:Int) (Us:Int×aI×List av):Option ((Int×aI×List av)⊕((aI×List av))) :=
 cond (decide (Us.1 < k)) ((iL Us.2.1).bind λ(x23:av×aI)=>gd (dh 40 (Us.2.2++[x23.1]).length) (some (.inl ((IntKind.i64.wrap (Us.1+1)),x23.2,(Us.2.2++[x23.1]))))) (some (.inr (Us.2.1,Us.2.2)))
def auH (k:Int) (r:Wm):Option (List av×Wm):=(bT (Yf k) KK (0,r,[])).bind λz=>some (z.2,z.1)
theorem akx (n:Nat) (hn:n≤5):∀ (j k:Nat) (acc:List av),j≤n→acc.length=n - j→j < k →
  UG (λ_=>True) (λr=>(bT (Yf (n:Int)) k (((n - j:Nat):Int),r,acc)).bind λz=>some (z.2,z.1)) (fP (gP LC j) λl b=>.inr (acc++l,b))
 | 0,k,acc,_,ha,hk=>by
  obtain ⟨k,rfl⟩:∃ i,k=i+1:=⟨k - 1,by omega⟩
  have e:∀ r,Yf (n:Int) (((n - 0:Nat):Int),r,acc)=some (.inr (r,acc)):=λr=>by
   unfold Yf
   simp only
   rw [aV (by omega),cond_false]
  have e2:(λr:Wm=>(bT (Yf (n:Int)) (k+1) (((n - 0:Nat):Int),r,acc)).bind λz=>some (z.2,z.1))=λr=>some (acc,r):=by
   funext r
   simp only [bT,e,Option.bind_some]
  have e3:(fP (gP LC 0) λl b=>(.inr (acc++l,b):Int⊕(List av×List UInt8)))=λb=>.inr (acc,b):=by
   funext b
   simp only [gP,fP,List.append_nil]
  rw [e2,e3]
  exact UG.ret acc
 | j+1,k,acc,hj,ha,hk=>by
  obtain ⟨k,rfl⟩:∃ i,k=i+1:=⟨k - 1,by omega⟩
  have e2:(λr:Wm=>(bT (Yf (n:Int)) (k+1) (((n - (j+1):Nat):Int),r,acc)).bind λz=>some (z.2,z.1))=λr=>(iL r).bind λy=>(bT (Yf (n:Int)) k (((n - j:Nat):Int),y.2,acc++[y.1])).bind λz=>some (z.2,z.1):=by
   funext r
   have e:Yf (n:Int) (((n - (j+1):Nat):Int),r,acc)=(iL r).bind λx23=>some (.inl (((n - j:Nat):Int),x23.2,acc++[x23.1])):=by
    unfold Yf
    simp only
    rw [aZ (by omega),cond_true,bU (by omega) (by omega),show ((n - (j+1):Nat):Int)+1=((n - j:Nat):Int) by omega]
    congr 1
    funext x23
    rw [jK (by unfold dh;simp;omega)]
   simp only [bT,e]
   cases iL r<;>rfl
  have e3:(fP (gP LC (j+1)) λl b=>(.inr (acc++l,b):Int⊕(List av×List UInt8)))=fP LC λx=>fP (gP LC j) λl b=>.inr (acc++[x]++l,b):=by
   simp only [gP,Sr,aaU,List.append_assoc,List.singleton_append]
  rw [e2,e3]
  exact UG.seq (g:=λx r=>(bT (Yf (n:Int)) k (((n - j:Nat):Int),r,acc++[x])).bind λz=>some (z.2,z.1)) av4 aeZ akw λx _=>akx n hn j k (acc++[x]) (by omega) (by simp;omega) (by omega)
theorem av5 (n:Nat) (hn:n≤5):UG (λ_=>True) (auH (n:Int)) (gP LC n):=by
 have h:=akx n hn n KK [] (Nat.le_refl _) (by simp) (by have:=rO;omega)
 rw [Nat.sub_self] at h
 have e:(fP (gP LC n) λl b=>(.inr ([]++l,b):Int⊕(List av×List UInt8)))=gP LC n:=by
  funext b
  unfold fP
  cases gP LC n b<;>rfl
 rw [e] at h
 exact h
def m8 (n:List Int) (d:Bool) (q:bn) (a:aD) (p:List Int) (t:List av) (r:Wm):Option (aF×Wm) :=
 cond (r.e==0) ((lV r.b).bind λqo=>some (mkM n d q a p t qo.1,⟨qo.2.1,qo.2.2⟩)) (some (mkM n d q a p t akt,r))
def m7 (n:List Int) (d:Bool) (q:bn) (a:aD) (p:List Int) (k:Int) (r:Wm):=(auH k r).bind λy=>m8 n d q a p y.1 y.2
def m6 (n:List Int) (d:Bool) (q:bn) (a:aD) (p:List Int) (r:Wm):=(eG 5 r).bind λy=>m7 n d q a p y.1 y.2
def m5 (n:List Int) (d:Bool) (q:bn) (a:aD) (c:Int) (r:Wm):=(dP c r).bind λy=>m6 n d q a y.1 y.2
def m4 (n:List Int) (d:Bool) (q:bn) (a:aD) (r:Wm):=(eG 5 r).bind λy=>m5 n d q a y.1 y.2
def m3 (n:List Int) (d:Bool) (q:bn) (r:Wm):=(aqC r).bind λy=>m4 n d q y.1 y.2
def m2 (n:List Int) (d:Bool) (r:Wm):=(aqB r).bind λy=>m3 n d y.1 y.2
def m1 (n:List Int) (r:Wm):=(eG 1 r).bind λy=>m2 n (y.1==1) y.2
theorem axy (n:List Int) (d:Bool) (q:bn) (a:aD) (p:List Int) (t:List av):UG (λ_=>True) (m8 n d q a p t) (fP abX λx b=>.inr (mkM n d q a p t x,b)):=by
 intro b e hb
 unfold m8
 refine ⟨λhe=>⟨_,trivial,by simp only;rw [Hu he];rfl⟩, ?_⟩
 simp only
 rw [Nw rfl,cond_true,Ye b (by omega),Option.bind_some]
 unfold fP
 cases hp:abX b with
 | inl e=>exact ⟨_,[],trivial,rfl,by simp⟩
 | inr y=>exact ⟨trivial,rfl⟩
theorem axz (n:List Int):UG (λ_=>True) (m1 n) (fP (Ei 1) λk=>fP abV λq=>fP Yd λa=>fP (Ei 5) λc=>fP (gP jZ c.toNat) λp=>fP (Ei 5) λk2=>fP (gP LC k2.toNat) λt=>fP abX λx b=>.inr (mkM n (k==1) q a p t x,b)):=by
 refine UG.seq (g:=λk r=>m2 n (k==1) r) (YB 1 (by omega)) (Bj 1) (LA 1) λk _=>?_
 refine UG.seq (g:=λq r=>m3 n (k==1) q r) auF akr auz λq _=>?_
 refine UG.seq (g:=λa r=>m4 n (k==1) q a r) auG aeU aks λa _=>?_
 refine UG.seq (g:=λc r=>m5 n (k==1) q a c r) (YB 5 (by omega)) (Bj 5) (LA 5) λc hc=>?_
 have h1:=aeY c.toNat (by omega)
 rw [Int.toNat_of_nonneg hc.1] at h1
 refine UG.seq (g:=λp r=>m6 n (k==1) q a p r) h1 (iR pX _) (sw uo _) λp _=>?_
 refine UG.seq (g:=λc r=>m7 n (k==1) q a p c r) (YB 5 (by omega)) (Bj 5) (LA 5) λk2 hk=>?_
 have h2:=av5 k2.toNat (by omega)
 rw [Int.toNat_of_nonneg hk.1] at h2
 exact UG.seq (g:=λt r=>m8 n (k==1) q a p t r) h2 (iR aeZ _) (sw akw _) λt _=>axy _ _ _ _ _ _
def m0 (l:List Int) (r:Wm):Option (aF×Wm):=(bO l 0).bind λ(x2:Int)=>(bO l 1).bind λ(x3:Int)=>(bO l 2).bind λ(x4:Int)=>(bO l 3).bind λ(x5:Int)=>(bO l 4).bind λ(x6:Int)=>(bO l 5).bind λ(x7:Int)=>(bO l 6).bind λ(x8:Int)=>(bO l 7).bind λ(x9:Int)=>(eG 1 r).bind λ(x10:Int×aI)=>(iY x10 x2 x3 x4 x5 x6 x7 x8 x9).bind λ(cu:(aI×Int×Int×Int×List UInt8×List UInt8×List UInt8))=>(iZ cu x2 x3 x4 x5 x6 x7 x8 x9 x10).bind λ(lH:(aI×Int×List UInt8))=>(eG 5 lH.1).bind λ(bR:Int×aI)=>(dP bR.1 bR.2).bind λ(yY:List Int×aI)=>(eG 5 yY.2).bind λ(iU:Int×aI)=>(nY iU x2 x3 x4 x5 x6 x7 x8 x9 x10 cu lH yY (0,iU.2,[])).bind λ(x25:(aI×List av))=>cond (x25.1.e==0) ((lV x25.1.b).bind λ(qo:aA×List UInt8×Int)=>some ((⟨x2,x3,x4,x5,x6,x7,x8,x9,(x10.1==1),(⟨cu.2.1,cu.2.2.1,(⟨cu.2.2.2.1,cu.2.2.2.2.1,cu.2.2.2.2.2.1,cu.2.2.2.2.2.2⟩:bD)⟩:bn),(⟨lH.2.1,lH.2.2⟩:aD),yY.1,x25.2,qo.1⟩:aF),(⟨qo.2.1,qo.2.2⟩:aI))) (some ((⟨x2,x3,x4,x5,x6,x7,x8,x9,(x10.1==1),(⟨cu.2.1,cu.2.2.1,(⟨cu.2.2.2.1,cu.2.2.2.2.1,cu.2.2.2.2.2.1,cu.2.2.2.2.2.2⟩:bD)⟩:bn),(⟨lH.2.1,lH.2.2⟩:aD),yY.1,x25.2,(⟨0,0,[],[]⟩:aA)⟩:aF),x25.1))
theorem av6 (x10:Int×aI) (x2 x3 x4 x5 x6 x7 x8 x9:Int):iY x10 x2 x3 x4 x5 x6 x7 x8 x9=(aqB x10.2).bind λy=>some (y.2,y.1.Client,y.1.Seq,y.1.Op.Kind,y.1.Op.Key,y.1.Op.Value,y.1.Op.Old):=by
 unfold iY aqB
 cases (x10.2.e==0)
 ·rfl
 ·simp only [cond_true]
  cases qh x10.2.b<;>rfl
theorem av7 (cu:(aI×Int×Int×Int×List UInt8×List UInt8×List UInt8)) (x2 x3 x4 x5 x6 x7 x8 x9:Int) (x10:Int×aI):iZ cu x2 x3 x4 x5 x6 x7 x8 x9 x10=(aqC cu.1).bind λy=>some (y.2,y.1.Why,y.1.Value):=by
 unfold iZ aqC
 cases (cu.1.e==0)
 ·rfl
 ·simp only [cond_true]
  cases jy cu.1.b<;>rfl
theorem av8 (iU:Int×aI) (x2 x3 x4 x5 x6 x7 x8 x9:Int) (x10:Int×aI) (cu:(aI×Int×Int×Int×List UInt8×List UInt8×List UInt8)) (lH:(aI×Int×List UInt8)) (yY:List Int×aI):nY iU x2 x3 x4 x5 x6 x7 x8 x9 x10 cu lH yY (0,iU.2,[])=(auH iU.1 iU.2).bind λz=>some (z.2,z.1):=by
 unfold auH
 show bT (Yf iU.1) KK (0,iU.2,[])=_
 cases bT (Yf iU.1) KK (0,iU.2,[])<;>rfl
theorem av9:UG (λ_=>True) nL abY:=by
 have e:nL=λr=>(dP ((8:Nat):Int) r).bind λy=>m0 y.1 y.2:=rfl
 have e2:abY=fP (gP jZ 8) λn=>fP (Ei 1) λk=>fP abV λq=>fP Yd λa=>fP (Ei 5) λc=>fP (gP jZ c.toNat) λp=>fP (Ei 5) λk2=>fP (gP LC k2.toNat) λt=>fP abX λx b=>.inr (mkM n (k==1) q a p t x,b):=by
  unfold abY ajy
  simp only [Sr,aaU]
 rw [e,e2]
 refine UG.seq (aeY 8 (by omega)) (iR pX 8) (sw uo 8) λl hl=>?_
 have g:m0 l=m1 l:=by
  funext r
  unfold m0
  have n0:=mI (0:Int) hl 0 (by omega)
  have n1:=mI (0:Int) hl 1 (by omega)
  have n2:=mI (0:Int) hl 2 (by omega)
  have n3:=mI (0:Int) hl 3 (by omega)
  have n4:=mI (0:Int) hl 4 (by omega)
  have n5:=mI (0:Int) hl 5 (by omega)
  have n6:=mI (0:Int) hl 6 (by omega)
  have n7:=mI (0:Int) hl 7 (by omega)
  rw [show ((0:Nat):Int)=0 from rfl] at n0
  rw [show ((1:Nat):Int)=1 from rfl] at n1
  rw [show ((2:Nat):Int)=2 from rfl] at n2
  rw [show ((3:Nat):Int)=3 from rfl] at n3
  rw [show ((4:Nat):Int)=4 from rfl] at n4
  rw [show ((5:Nat):Int)=5 from rfl] at n5
  rw [show ((6:Nat):Int)=6 from rfl] at n6
  rw [show ((7:Nat):Int)=7 from rfl] at n7
  simp only [n0,n1,n2,n3,n4,n5,n6,n7,Option.bind_some,av6,av7,av8,Option.bind_assoc]
  rfl
 rw [g]
 exact axz l
def avf:aF:=⟨0,0,0,0,0,0,0,0,false,Iy,ahh,[],[],akt⟩
def aky (b:List UInt8):aF×Int:=match abY b with
 | .inl e=>(avf,e)
 | .inr (r,s)=>if s.length=0∧nN r=true then (r,0) else (avf,2)
theorem auI:Err abY:=by
 unfold abY
 exact iM (iR pX 8) λn=>iM akv λd=>iM akr λq=>iM aeU λa=>iM (Bj 5) λc=>iM (iR pX _) λp=>iM (Bj 5) λk=>iM (iR aeZ _) λt=>iM auA λx b e h=>by cases h
theorem aaV {α β:Type} {P:β→Prop} {C:α→Prop} {p:Pr α} {q:α→Pr β} (hp:∀ b x r,p b=.inr (x,r)→C x) (hq:∀ x,C x→∀ b y r,q x b=.inr (y,r)→P y):∀ b y r,fP p q b=.inr (y,r)→P y:=by
 intro b y r h
 unfold fP at h
 split at h
 ·cases h
 ·rename_i x c hx
  exact hq _ (hp _ _ _ hx) _ _ _ h
theorem aqD:∀ b x r,abY b=.inr (x,r)→LB x:=by
 unfold abY
 refine Bl λn=>Bl λd=>Bl λq=>Bl λa=>?_
 refine aaV (C:=λc=>0≤c∧c≤5) (λb x r h=>aeV h) λc hc=>?_
 refine aaV (C:=λp:List Int=>p.length=c.toNat) (λb x r h=>yO h) λp hp=>?_
 refine aaV (C:=λc=>0≤c∧c≤5) (λb x r h=>aeV h) λk hk=>?_
 refine aaV (C:=λp:List av=>p.length=k.toNat) (λb x r h=>yO h) λt ht=>?_
 refine aaV (C:=λx=>qV x=true) av1 λx hx b y r h=>?_
 simp only [Sum.inr.injEq,Prod.mk.injEq] at h
 rw [← h.1]
 have:=Bh hx
 exact ⟨show p.length < _ by omega,show t.length < _ by omega,show x.Pairs.length < _ by omega,show x.dX.length < _ by omega⟩
theorem aqE (b:List UInt8) (hb:b.length < 500000000):Gh b=some (aky b):=by
 unfold Gh aky
 have h:=(av9 b 0 hb).2
 cases hp:abY b with
 | inl er =>
  have he:er≠0:=by rcases auI _ _ hp with rfl | rfl<;>omega
  rw [hp] at h
  obtain ⟨x,s,_,h,_⟩:=h
  rw [h,Option.bind_some]
  unfold Dw Dv
  simp only
  rw [Hu he]
  simp only [cond_false,Option.bind_some]
  rw [qZ he]
  rfl
 | inr y =>
  obtain ⟨x,s⟩:=y
  rw [hp] at h
  simp only at h
  rw [h.2,Option.bind_some]
  unfold Dw Dv
  simp only
  rw [Nw rfl,Wj x (aqD _ _ _ hp)]
  simp only [cond_true,Option.bind_some]
  by_cases c:s.length=0
  ·rw [aV (by omega),cond_false]
   cases hc:nN x
   ·rw [if_neg (by simp)];rfl
   ·rw [if_pos ⟨c,rfl⟩];rfl
  ·rw [aZ (by omega),if_neg (by rintro ⟨p,_⟩;exact c p)]
   rfl
theorem ajz {r:aF} (h:nN r=true):aky (DK r)=(r,0):=by
 have:=(aqz h).1 []
 rw [List.append_nil] at this
 unfold aky
 rw [this]
 simp only
 rw [if_pos ⟨rfl,h⟩]
end Go.Proofs.YtohoggieaanllaaGreat
