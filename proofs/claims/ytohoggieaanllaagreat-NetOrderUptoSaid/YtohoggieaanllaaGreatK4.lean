import Derived.Test.YtohoggieaanllaaGreatK3
set_option linter.all false
set_option linter.unusedSimpArgs false
namespace Go.Proofs.YtohoggieaanllaaGreat
theorem Lays.then {α β:Type} {p:Pr α} {x:α} {e:List UInt8} {q:α→Pr β} {y:β} (h:Lays p x e) (g:∀ r,q x r=.inr (y,r)):Lays (fP p q) y e:=h.last g
def mkQ (n:List Int) (s:List (List UInt8)):bn:=⟨n.getD 0 0,n.getD 1 0,⟨n.getD 2 0,s.getD 0 [],s.getD 1 [],s.getD 2 []⟩⟩
def abV:Pr bn:=fP (gP jZ 3) λn=>fP (gP yA 3) λs=>M7 vK (mkQ n s)
theorem auz:Shr abV:=wZ (sw uo 3) λ_=>wZ (sw UC 3) λ_=>akn _ _
theorem akr:Err abV:=iM (iR pX 3) λ_=>iM (iR Gu 3) λ_=>aeO _ _
theorem aqs {r:bn} (h:vK r=true):Lays abV r (ahf r):=by
 obtain ⟨h1,h2,h3,h4,h5,h6⟩:=Lu h
 have a:=Lays.rep (p:=jZ) (enc:=eN) [r.Client,r.Seq,r.Op.Kind] (λx hx=>by
  simp only [List.mem_cons,List.not_mem_nil,or_false] at hx
  rcases hx with rfl | rfl | rfl<;>exact Q8.lays (by assumption))
 have b:=Lays.rep (p:=yA) (enc:=eT) [r.Op.Key,r.Op.Value,r.Op.Old] (λx hx=>by
  simp only [List.mem_cons,List.not_mem_nil,or_false] at hx
  rcases hx with rfl | rfl | rfl<;>exact ajp.lays (by unfold okS;omega))
 exact a.seq (b.last λs=>by
  show M7 vK r s=_
  unfold M7
  rw [if_pos h])
theorem mI {α:Type} {l:List α} (d:α) {n:Nat} (hl:l.length=n) (i:Nat) (hi:i < n):bO l (i:Int)=some (l.getD i d):=by
 rw [dI (by omega),List.getD_eq_getElem?_getD,List.getElem?_eq_getElem (by omega)]
 rfl
theorem abW (b:List UInt8) (hb:b.length < 800000000):qh b=some (match abV b with
  | .inl e=>(Iy,[],e)
  | .inr (r,s)=>(r,s,0)):=by
 unfold qh abV
 have ht:=Ph b 3 (by omega) (by omega)
 rw [show ((3:Nat):Int)=3 from rfl] at ht
 rw [ht,Option.bind_some]
 cases h1:gP jZ 3 b with
 | inl e =>
  have he:e≠0:=by rcases iR pX 3 _ _ h1 with rfl | rfl<;>omega
  rw [vG h1]
  simp only
  rw [qZ he]
  rfl
 | inr y =>
  obtain ⟨n,c⟩:=y
  have hn:=yO h1
  have hc:=sw uo 3 _ _ _ h1
  rw [tK h1]
  have hx:=Xg c 3 (by omega) (by omega)
  rw [show ((3:Nat):Int)=3 from rfl] at hx
  simp only
  rw [gL rfl,cond_false,hx,Option.bind_some]
  cases h2:gP yA 3 c with
  | inl e =>
   have he:e≠0:=by rcases iR Gu 3 _ _ h2 with rfl | rfl<;>omega
   rw [vG h2]
   simp only
   rw [qZ he]
   rfl
  | inr y =>
   obtain ⟨s,r⟩:=y
   have hs:=yO h2
   rw [tK h2]
   simp only
   rw [gL rfl,cond_false]
   have n0:=mI (0:Int) hn 0 (by omega)
   have n1:=mI (0:Int) hn 1 (by omega)
   have n2:=mI (0:Int) hn 2 (by omega)
   have s0:=mI ([]:List UInt8) hs 0 (by omega)
   have s1:=mI ([]:List UInt8) hs 1 (by omega)
   have s2:=mI ([]:List UInt8) hs 2 (by omega)
   rw [show ((0:Nat):Int)=0 from rfl] at n0 s0
   rw [show ((1:Nat):Int)=1 from rfl] at n1 s1
   rw [show ((2:Nat):Int)=2 from rfl] at n2 s2
   rw [n0,Option.bind_some,n1,Option.bind_some,n2,Option.bind_some,s0,Option.bind_some,s1,Option.bind_some,s2,Option.bind_some,Gx,Option.bind_some]
   show cond (!vK (mkQ n s)) _ (some (mkQ n s,r,0))=_
   unfold M7
   cases vK (mkQ n s)<;>rfl
def ahh:aD:=⟨0,[]⟩
def Yd:Pr aD:=fP jZ λn=>fP yA λs=>M7 sF ⟨n,s⟩
theorem aks:Shr Yd:=wZ uo λ_=>wZ UC λ_=>akn _ _
theorem aeU:Err Yd:=iM pX λ_=>iM Gu λ_=>aeO _ _
theorem ahj {a:aD} (h:sF a=true):Lays Yd a (aeT a):=by
 obtain ⟨h1,h2⟩:=Lv h
 exact (Q8.lays h1).seq ((ajp.lays (show okS a.Value by unfold okS;omega)).last λs=>by
  show M7 sF a s=_
  unfold M7
  rw [if_pos h])
theorem aqt (b:List UInt8) (hb:b.length < 900000000):Fb b=some (match jZ b with
  | .inl e=>(0,[],e)
  | .inr (n,r)=>(n,r,0)):=by
 rw [ajo b (by omega)]
 unfold ah6 jZ
 rcases oW b with e | e | ⟨v,k,e,_⟩<;>rw [e]<;>rfl
theorem Q_ (b:List UInt8) (hb:b.length < 800000000):jy b=some (match Yd b with
  | .inl e=>(ahh,[],e)
  | .inr (a,s)=>(a,s,0)):=by
 unfold jy Yd
 rw [aqt b (by omega),Option.bind_some]
 cases h1:jZ b with
 | inl e =>
  have he:e≠0:=by rcases pX _ _ h1 with rfl | rfl<;>omega
  rw [vG h1]
  simp only
  rw [qZ he]
  rfl
 | inr y =>
  obtain ⟨n,c⟩:=y
  have hc:=uo _ _ _ h1
  rw [tK h1]
  simp only
  rw [gL rfl,cond_false,Pj c (by omega),Option.bind_some]
  cases h2:yA c with
  | inl e =>
   have he:e≠0:=by rcases Gu _ _ h2 with rfl | rfl<;>omega
   rw [vG h2]
   simp only
   rw [qZ he]
   rfl
  | inr y =>
   obtain ⟨s,r⟩:=y
   rw [tK h2]
   simp only
   rw [gL rfl,cond_false,Bg,Option.bind_some]
   unfold M7
   cases sF ⟨n,s⟩<;>rfl
def MB:Pr au:=fP (gP yA 2) λs b=>.inr (⟨s.getD 0 [],s.getD 1 []⟩,b)
def ME:Pr ak:=fP (gP jZ 2) λn=>fP Yd λa b=>.inr (⟨n.getD 0 0,n.getD 1 0,a⟩,b)
def Ei (m:Int):Pr Int:=fP jZ λn b=>if n≤m then .inr (n,b) else .inl 2
def abX:Pr aA:=fP (gP jZ 2) λn=>fP (Ei 8) λc=>fP (gP MB c.toNat) λps=>fP (Ei 4) λd=>fP (gP ME d.toNat) λss=>M7 qV ⟨n.getD 0 0,n.getD 1 0,ps,ss⟩
theorem ahk {α:Type} (x:α):Shr (λb=>.inr (x,b)):=λb y r h=>by
 simp only [Sum.inr.injEq,Prod.mk.injEq] at h
 rw [h.2]
 exact Nat.le_refl _
theorem ahl {α:Type} (x:α):Err (λb=>.inr (x,b)):=λb e h=>by cases h
theorem LA (m:Int):Shr (Ei m):=wZ uo λn b y r h=>by
 split at h
 ·simp only [Sum.inr.injEq,Prod.mk.injEq] at h
  rw [h.2]
  exact Nat.le_refl _
 ·cases h
theorem Bj (m:Int):Err (Ei m):=iM pX λn b e h=>by
 split at h
 ·cases h
 ·exact .inl (Sum.inl.inj h).symm
theorem aeV {m:Int} {b r:List UInt8} {n:Int} (h:Ei m b=.inr (n,r)):0≤n∧n≤m:=by
 unfold Ei fP at h
 split at h
 ·cases h
 ·rename_i e
  simp only at h
  split at h
  ·have:=aqg e
   unfold uz at this
   simp only [Sum.inr.injEq,Prod.mk.injEq] at h
   omega
  ·cases h
theorem ahm:Shr MB:=wZ (sw UC 2) λ_=>ahk _
theorem aaO:Err MB:=iM (iR Gu 2) λ_=>ahl _
theorem aqu:Shr ME:=wZ (sw uo 2) λ_=>wZ aks λ_=>ahk _
theorem aaP:Err ME:=iM (iR pX 2) λ_=>iM aeU λ_=>ahl _
theorem auA:Err abX:=iM (iR pX 2) λ_=>iM (Bj 8) λ_=>iM (iR aaO _) λ_=>iM (Bj 4) λ_=>iM (iR aaP _) λ_=>aeO _ _
theorem alX {p:au} (h:p.Key.length≤8∧p.Value.length≤16):Lays MB p (BI p):=by
 have b:=Lays.rep (p:=yA) (enc:=eT) [p.Key,p.Value] (λx hx=>by
  simp only [List.mem_cons,List.not_mem_nil,or_false] at hx
  rcases hx with rfl | rfl<;>exact ajp.lays (by unfold okS;omega))
 have:=b.last (q:=λs b=>.inr (⟨s.getD 0 [],s.getD 1 []⟩,b)) (y:=p) λs=>rfl
 simp only [List.flatMap_cons,List.flatMap_nil,List.append_nil] at this
 exact this
theorem alY {s:ak} (h:uz s.Client∧uz s.Seq∧sF s.Answer=true):Lays ME s (DJ s):=by
 have a:=Lays.rep (p:=jZ) (enc:=eN) [s.Client,s.Seq] (λx hx=>by
  simp only [List.mem_cons,List.not_mem_nil,or_false] at hx
  rcases hx with rfl | rfl
  ·exact Q8.lays h.1
  ·exact Q8.lays h.2.1)
 exact a.seq ((ahj h.2.2).last λ_=>rfl)
theorem Po {m:Int} {n:Nat} (h:(n:Int)≤m) (h2:n≤4611686018427387903):Lays (Ei m) (n:Int) (eN (n:Int)) :=
 (Q8.lays (show uz (n:Int) by unfold uz;omega)).last λ_=>by rw [if_pos h]
theorem aqv {x:aA} (h:qV x=true):Lays abX x (alW x):=by
 obtain ⟨h1,h2,h3,h4,h5,h6⟩:=Bh h
 have a:=Lays.rep (p:=jZ) (enc:=eN) [x.eY,x.Epoch] (λz hz=>by
  simp only [List.mem_cons,List.not_mem_nil,or_false] at hz
  rcases hz with rfl | rfl
  ·exact Q8.lays h1
  ·exact Q8.lays h2)
 have b:=Lays.rep (p:=MB) (enc:=BI) x.Pairs λp hp=>alX (h5 p hp)
 have c:=Lays.rep (p:=ME) (enc:=DJ) x.dX λs hs=>alY (h6 s hs)
 exact a.seq ((Po (by omega) (by omega)).seq (b.seq ((Po (by omega) (by omega)).seq (c.last λs=>by
  show M7 qV x s=_
  unfold M7
  rw [if_pos h]))))
theorem ajx (n:Nat) (h:n < 1000000):afJ 8 (n:Int)=true:=by
 unfold afJ
 simp
 omega
theorem sU (n:Nat) (r:aG) (hn:n < 1000000) (hb:r.b.length < 800000000):fZ (n:Int) r=some (if r.e=0 then (match gP jZ n r.b with
  | .inl e=>(List.replicate n 0,⟨[],e⟩)
  | .inr (l,s)=>(l,⟨s,0⟩)) else (List.replicate n 0,r)):=by
 unfold fZ
 rw [jK (ajx n hn),Int.toNat_natCast]
 by_cases he:r.e=0
 ·rw [Nw he,cond_true,if_pos he,Ph r.b n (by omega) hn,Option.bind_some]
  cases h:gP jZ n r.b with
  | inl e =>
   have:e≠0:=by rcases iR pX n _ _ h with rfl | rfl<;>omega
   simp only
   rw [Hu this]
   rfl
  | inr y=>rfl
 ·rw [Hu he,cond_false,if_neg he]
theorem aqw (r:aG) (hb:r.b.length < 800000000) (he:r.e=0) {e:Int} (h:jZ r.b=.inl e):fZ 1 r=some ([0],⟨[],e⟩):=by
 have h1:=sU 1 r (by omega) hb
 rw [show ((1:Nat):Int)=1 from rfl,if_pos he,show gP jZ 1 r.b=.inl e from vG h] at h1
 exact h1
theorem adq (r:aG) (hb:r.b.length < 800000000) (he:r.e=0) {n:Int} {s:List UInt8} (h:jZ r.b=.inr (n,s)):fZ 1 r=some ([n],⟨s,0⟩):=by
 have h1:=sU 1 r (by omega) hb
 rw [show ((1:Nat):Int)=1 from rfl,if_pos he,show gP jZ 1 r.b=.inr ([n],s) by simp only [gP];rw [tK h];rfl] at h1
 exact h1
theorem adr (m:Nat) (r:aG) (hb:r.b.length < 800000000) (he:r.e≠0):fK (m:Int) r=some (0,r):=by
 have h1:=sU 1 r (by omega) hb
 rw [show ((1:Nat):Int)=1 from rfl,if_neg he] at h1
 unfold fK
 rw [h1,Option.bind_some]
 simp only [List.replicate]
 rw [show bO [(0:Int)] 0=some 0 from rfl,Option.bind_some,aV (by omega),cond_false]
theorem ads (m:Nat) (r:aG) (hb:r.b.length < 800000000) (he:r.e=0) {e:Int} (h:Ei m r.b=.inl e):∃ c,fK (m:Int) r=some (0,⟨c,e⟩)∧c.length≤r.b.length:=by
 unfold Ei at h
 unfold fK
 cases hn:jZ r.b with
 | inl e' =>
  rw [vG hn] at h
  obtain rfl:=Sum.inl.inj h
  rw [aqw r hb he hn,Option.bind_some]
  rw [show bO [(0:Int)] 0=some 0 from rfl,Option.bind_some,aV (by omega),cond_false]
  exact ⟨_,rfl,by simp⟩
 | inr y =>
  obtain ⟨n,s⟩:=y
  have:=uo _ _ _ hn
  rw [tK hn] at h
  rw [adq r hb he hn,Option.bind_some]
  rw [show bO [n] 0=some n from rfl,Option.bind_some]
  split at h
  ·cases h
  ·rename_i c
   obtain rfl:=Sum.inl.inj h
   rw [aZ (by omega),cond_true]
   exact ⟨_,rfl,by omega⟩
theorem aaQ (m:Nat) (r:aG) (hb:r.b.length < 800000000) (he:r.e=0) {n:Int} {s:List UInt8} (h:Ei m r.b=.inr (n,s)):fK (m:Int) r=some (n,⟨s,0⟩):=by
 unfold Ei at h
 unfold fK
 cases hn:jZ r.b with
 | inl e'=>rw [vG hn] at h;cases h
 | inr y =>
  obtain ⟨n',s'⟩:=y
  rw [tK hn] at h
  split at h
  ·rename_i c
   obtain ⟨rfl,rfl⟩:=Prod.mk.inj (Sum.inr.inj h)
   rw [adq r hb he hn,Option.bind_some]
   rw [show bO [n'] 0=some n' from rfl,Option.bind_some,aV (by omega),cond_false]
  ·cases h
theorem ahn (r:aG) (hb:r.b.length < 800000000) (he:r.e=0):jP r=some (match MB r.b with
  | .inl e=>(⟨[],[]⟩,⟨[],e⟩)
  | .inr (x,s)=>(x,⟨s,0⟩)):=by
 unfold jP MB
 have hx:=Xg r.b 2 (by omega) (by omega)
 rw [show ((2:Nat):Int)=2 from rfl] at hx
 rw [Nw he,cond_true,hx,Option.bind_some]
 cases h:gP yA 2 r.b with
 | inl e =>
  have:e≠0:=by rcases iR Gu 2 _ _ h with rfl | rfl<;>omega
  rw [vG h]
  simp only
  rw [Hu this]
  rfl
 | inr y =>
  obtain ⟨l,s⟩:=y
  have hl:=yO h
  have s0:=mI ([]:List UInt8) hl 0 (by omega)
  have s1:=mI ([]:List UInt8) hl 1 (by omega)
  rw [show ((0:Nat):Int)=0 from rfl] at s0
  rw [show ((1:Nat):Int)=1 from rfl] at s1
  rw [tK h]
  simp only
  rw [Nw rfl,cond_true,s0,Option.bind_some,s1,Option.bind_some]
theorem alZ (r:aG) (he:r.e≠0):jP r=some (⟨[],[]⟩,r):=by
 unfold jP
 rw [Hu he,cond_false]
theorem aho (r:aG) (hb:r.b.length < 800000000) (he:r.e=0):match ME r.b with
  | .inl e=>∃ x,iQ r=some (x,⟨[],e⟩)
  | .inr (x,s)=>iQ r=some (x,⟨s,0⟩):=by
 unfold iQ ME
 have hx:=sU 2 r (by omega) hb
 rw [show ((2:Nat):Int)=2 from rfl,if_pos he] at hx
 rw [hx]
 cases h:gP jZ 2 r.b with
 | inl e =>
  have:e≠0:=by rcases iR pX 2 _ _ h with rfl | rfl<;>omega
  rw [vG h]
  refine ⟨⟨0,0,⟨0,[]⟩⟩, ?_⟩
  simp only [Option.bind_some]
  rw [show bO (List.replicate 2 (0:Int)) 0=some 0 from rfl,Option.bind_some,show bO (List.replicate 2 (0:Int)) 1=some 0 from rfl,Option.bind_some,Hu this]
  rfl
 | inr y =>
  obtain ⟨l,s⟩:=y
  have hl:=yO h
  have hs:=sw uo 2 _ _ _ h
  have s0:=mI (0:Int) hl 0 (by omega)
  have s1:=mI (0:Int) hl 1 (by omega)
  rw [show ((0:Nat):Int)=0 from rfl] at s0
  rw [show ((1:Nat):Int)=1 from rfl] at s1
  rw [tK h]
  simp only [Option.bind_some]
  rw [s0,Option.bind_some,s1,Option.bind_some,Nw rfl,cond_true,Q_ s (by omega),Option.bind_some]
  cases h2:Yd s with
  | inl e =>
   rw [vG h2]
   exact ⟨_,rfl⟩
  | inr y =>
   obtain ⟨a,t⟩:=y
   rw [tK h2]
theorem al0 (r:aG) (hb:r.b.length < 800000000) (he:r.e≠0):iQ r=some (⟨0,0,⟨0,[]⟩⟩,r):=by
 unfold iQ
 have hx:=sU 2 r (by omega) hb
 rw [show ((2:Nat):Int)=2 from rfl,if_neg he] at hx
 rw [hx,Option.bind_some]
 simp only
 rw [show bO (List.replicate 2 (0:Int)) 0=some 0 from rfl,Option.bind_some,show bO (List.replicate 2 (0:Int)) 1=some 0 from rfl,Option.bind_some,Hu he,cond_false]
theorem sticky {α E:Type} {p:Pr α} (n:Nat) (hn:n < 1000000) (f:Int×aG×List α→Option ((Int×aG×List α)⊕(aG×List α))) (m:Nat) (hm:m < 700000000) (hp:Shr p) (he:Err p)
  (h1:∀ (i:Nat) (b:List UInt8) (acc:List α),i < n→b.length≤m→acc.length=i→match p b with
   | .inl e=>∃ x,f ((i:Int),⟨b,0⟩,acc)=some (.inl (((i+1:Nat):Int),⟨[],e⟩,acc++[x]))
   | .inr (x,r)=>f ((i:Int),⟨b,0⟩,acc)=some (.inl (((i+1:Nat):Int),⟨r,0⟩,acc++[x])))
  (h2:∀ (i:Nat) (b:List UInt8) (e:Int) (acc:List α),i < n→b.length≤m→e≠0→acc.length=i→∃ x,f ((i:Int),⟨b,e⟩,acc)=some (.inl (((i+1:Nat):Int),⟨b,e⟩,acc++[x])))
  (h3:∀ r acc,f ((n:Int),r,acc)=some (.inr (r,acc))) :
  (∀ (j k:Nat) (b:List UInt8) (e:Int) (acc:List α),j≤n→b.length≤m→e≠0→acc.length=n - j→j < k→∃ l,bT f k (((n - j:Nat):Int),⟨b,e⟩,acc)=some (⟨b,e⟩,l)∧l.length=n) ∧
  ∀ (j k:Nat) (b:List UInt8) (acc:List α),j≤n→b.length≤m→acc.length=n - j→j < k→match gP p j b with
   | .inl e=>∃ l,bT f k (((n - j:Nat):Int),⟨b,0⟩,acc)=some (⟨[],e⟩,l)∧l.length=n
   | .inr (l,r)=>bT f k (((n - j:Nat):Int),⟨b,0⟩,acc)=some (⟨r,0⟩,acc++l):=by
 have bad:∀ (j k:Nat) (b:List UInt8) (e:Int) (acc:List α),j≤n→b.length≤m→e≠0→acc.length=n - j→j < k→∃ l,bT f k (((n - j:Nat):Int),⟨b,e⟩,acc)=some (⟨b,e⟩,l)∧l.length=n:=by
  intro j
  induction j with
  | zero =>
   intro k b e acc _ _ _ ha hk
   obtain ⟨k,rfl⟩:∃ i,k=i+1:=⟨k - 1,by omega⟩
   exact ⟨acc,by simp only [bT,Nat.sub_zero,h3],by omega⟩
  | succ j ih =>
   intro k b e acc hj hb hee ha hk
   obtain ⟨k,rfl⟩:∃ i,k=i+1:=⟨k - 1,by omega⟩
   obtain ⟨x,hx⟩:=h2 (n - (j+1)) b e acc (by omega) hb hee ha
   obtain ⟨l,i1,i2⟩:=ih k b e (acc++[x]) (by omega) hb hee (by simp;omega) (by omega)
   refine ⟨l, ?_,i2⟩
   simp only [bT,hx]
   rw [show n - (j+1)+1=n - j by omega]
   exact i1
 refine ⟨bad, ?_⟩
 intro j
 induction j with
 | zero =>
  intro k b acc _ _ ha hk
  obtain ⟨k,rfl⟩:∃ i,k=i+1:=⟨k - 1,by omega⟩
  simp only [gP,bT,Nat.sub_zero,h3,List.append_nil]
 | succ j ih =>
  intro k b acc hj hb ha hk
  obtain ⟨k,rfl⟩:∃ i,k=i+1:=⟨k - 1,by omega⟩
  have h:=h1 (n - (j+1)) b acc (by omega) hb ha
  simp only [gP,fP]
  cases hx:p b with
  | inl e =>
   rw [hx] at h
   obtain ⟨x,h⟩:=h
   have hne:e≠0:=by rcases he _ _ hx with rfl | rfl<;>omega
   obtain ⟨l,i1,i2⟩:=bad j k [] e (acc++[x]) (by omega) (by simp) hne (by simp;omega) (by omega)
   refine ⟨l, ?_,i2⟩
   simp only [bT,h]
   rw [show n - (j+1)+1=n - j by omega]
   exact i1
  | inr y =>
   obtain ⟨x,r⟩:=y
   rw [hx] at h
   have hs:=hp _ _ _ hx
   have i:=ih k r (acc++[x]) (by omega) (by omega) (by simp;omega) (by omega)
   simp only at h ⊢
   cases hy:gP p j r with
   | inl e =>
    rw [hy] at i
    obtain ⟨l,i1,i2⟩:=i
    refine ⟨l, ?_,i2⟩
    simp only [bT,h]
    rw [show n - (j+1)+1=n - j by omega]
    exact i1
   | inr z =>
    obtain ⟨l,s⟩:=z
    rw [hy] at i
    simp only at i ⊢
    simp only [bT,h]
    rw [show n - (j+1)+1=n - j by omega,i]
    simp
end Go.Proofs.YtohoggieaanllaaGreat
