import Derived.Test.YtohoggieaanllaaGreatK3
set_option linter.all false
set_option linter.unusedSimpArgs false
namespace Go.Proofs.YtohoggieaanllaaGreat
theorem Lays.then {α β:Type} {p:Pr α} {x:α} {e:List UInt8} {q:α→Pr β} {y:β} (h:Lays p x e) (g:∀ r,q x r=.inr (y,r)):Lays (bH p q) y e:=h.last g
def mkQ (n:List Int) (s:List (List UInt8)):aU:=⟨n.getD 0 0,n.getD 1 0,⟨n.getD 2 0,s.getD 0 [],s.getD 1 [],s.getD 2 []⟩⟩
def Vk:Pr aU:=bH (eH fO 3) λn=>bH (eH kF 3) λs=>Ag nK (mkQ n s)
theorem akN:Shr Vk:=pU (pV f_ 3) λ_=>pU (pV yY 3) λ_=>afo _ _
theorem aft:Err Vk:=jc (jk fJ 3) λ_=>jc (jk r_ 3) λ_=>afp _ _
theorem nL {α:Type} {l:List α} (d:α) {n:Nat} (hl:l.length=n) (i:Nat) (hi:i < n):bV l (i:Int)=some (l.getD i d):=by
 rw [dP (by omega),List.getD_eq_getElem?_getD,List.getElem?_eq_getElem (by omega)]
 rfl
theorem acH (b:List UInt8) (hb:b.length < 800000000):qY b=some (match Vk b with
  | .inl e=>(Ct,[],e)
  | .inr (r,s)=>(r,s,0)):=by
 unfold qY Vk
 have ht:=PO b 3 (by omega) (by omega)
 rw [show ((3:Nat):Int)=3 from rfl] at ht
 rw [ht,Option.bind_some]
 cases h1:eH fO 3 b with
 | inl e =>
  have he:e≠0:=by rcases jk fJ 3 _ _ h1 with rfl | rfl<;>omega
  rw [wH h1]
  simp only
  rw [mD he]
  rfl
 | inr y =>
  obtain ⟨n,c⟩:=y
  have hn:=zm h1
  have hc:=pV f_ 3 _ _ _ h1
  rw [uT h1]
  have hx:=XR c 3 (by omega) (by omega)
  rw [show ((3:Nat):Int)=3 from rfl] at hx
  simp only
  rw [gX rfl,cond_false,hx,Option.bind_some]
  cases h2:eH kF 3 c with
  | inl e =>
   have he:e≠0:=by rcases jk r_ 3 _ _ h2 with rfl | rfl<;>omega
   rw [wH h2]
   simp only
   rw [mD he]
   rfl
  | inr y =>
   obtain ⟨s,r⟩:=y
   have hs:=zm h2
   rw [uT h2]
   simp only
   rw [gX rfl,cond_false]
   have n0:=nL (0:Int) hn 0 (by omega)
   have n1:=nL (0:Int) hn 1 (by omega)
   have n2:=nL (0:Int) hn 2 (by omega)
   have s0:=nL ([]:List UInt8) hs 0 (by omega)
   have s1:=nL ([]:List UInt8) hs 1 (by omega)
   have s2:=nL ([]:List UInt8) hs 2 (by omega)
   rw [show ((0:Nat):Int)=0 from rfl] at n0 s0
   rw [show ((1:Nat):Int)=1 from rfl] at n1 s1
   rw [show ((2:Nat):Int)=2 from rfl] at n2 s2
   rw [n0,Option.bind_some,n1,Option.bind_some,n2,Option.bind_some,s0,Option.bind_some,s1,Option.bind_some,s2,Option.bind_some,Ho,Option.bind_some]
   show cond (!nK (mkQ n s)) _ (some (mkQ n s,r,0))=_
   unfold Ag
   cases nK (mkQ n s)<;>rfl
def Vl:aB:=⟨0,[]⟩
def PX:Pr aB:=bH fO λn=>bH kF λs=>Ag su ⟨n,s⟩
theorem Zj:Shr PX:=pU f_ λ_=>pU yY λ_=>afo _ _
theorem Vm:Err PX:=jc fJ λ_=>jc r_ λ_=>afp _ _
theorem aqv (b:List UInt8) (hb:b.length < 900000000):FR b=some (match fO b with
  | .inl e=>(0,[],e)
  | .inr (n,r)=>(n,r,0)):=by
 rw [ajR b (by omega)]
 unfold Gb fO
 rcases lI b with e | e | ⟨v,k,e,_⟩<;>rw [e]<;>rfl
theorem RG (b:List UInt8) (hb:b.length < 800000000):jT b=some (match PX b with
  | .inl e=>(Vl,[],e)
  | .inr (a,s)=>(a,s,0)):=by
 unfold jT PX
 rw [aqv b (by omega),Option.bind_some]
 cases h1:fO b with
 | inl e =>
  have he:e≠0:=by rcases fJ _ _ h1 with rfl | rfl<;>omega
  rw [wH h1]
  simp only
  rw [mD he]
  rfl
 | inr y =>
  obtain ⟨n,c⟩:=y
  have hc:=f_ _ _ _ h1
  rw [uT h1]
  simp only
  rw [gX rfl,cond_false,PS c (by omega),Option.bind_some]
  cases h2:kF c with
  | inl e =>
   have he:e≠0:=by rcases r_ _ _ h2 with rfl | rfl<;>omega
   rw [wH h2]
   simp only
   rw [mD he]
   rfl
  | inr y =>
   obtain ⟨s,r⟩:=y
   rw [uT h2]
   simp only
   rw [gX rfl,cond_false,B_,Option.bind_some]
   unfold Ag
   cases su ⟨n,s⟩<;>rfl
def xY:Pr av:=bH (eH kF 2) λs b=>.inr (⟨s.getD 0 [],s.getD 1 []⟩,b)
def uz:Pr au:=bH (eH fO 2) λn=>bH PX λa b=>.inr (⟨n.getD 0 0,n.getD 1 0,a⟩,b)
def qh (m:Int):Pr Int:=bH fO λn b=>if n≤m then .inr (n,b) else .inl 2
def PY:Pr aC:=bH (eH fO 2) λn=>bH (qh 8) λc=>bH (eH xY c.toNat) λps=>bH (qh 4) λd=>bH (eH uz d.toNat) λss=>Ag kH ⟨n.getD 0 0,n.getD 1 0,ps,ss⟩
theorem ahS {α:Type} (x:α):Shr (λb=>.inr (x,b)):=λb y r h=>by
 simp only [Sum.inr.injEq,Prod.mk.injEq] at h
 rw [h.2]
 exact Nat.le_refl _
theorem ahT {α:Type} (x:α):Err (λb=>.inr (x,b)):=λb e h=>by cases h
theorem Dr (m:Int):Shr (qh m):=pU f_ λn b y r h=>by
 split at h
 ·simp only [Sum.inr.injEq,Prod.mk.injEq] at h
  rw [h.2]
  exact Nat.le_refl _
 ·cases h
theorem zn (m:Int):Err (qh m):=jc fJ λn b e h=>by
 split at h
 ·cases h
 ·exact .inl (Sum.inl.inj h).symm
theorem abt {m:Int} {b r:List UInt8} {n:Int} (h:qh m b=.inr (n,r)):0≤n∧n≤m:=by
 unfold qh bH at h
 split at h
 ·cases h
 ·rename_i e
  simp only at h
  split at h
  ·have:=aql e
   unfold vG at this
   simp only [Sum.inr.injEq,Prod.mk.injEq] at h
   omega
  ·cases h
theorem PZ:Shr xY:=pU (pV yY 2) λ_=>ahS _
theorem P5:Err xY:=jc (jk r_ 2) λ_=>ahT _
theorem Vn:Shr uz:=pU (pV f_ 2) λ_=>pU Zj λ_=>ahS _
theorem P6:Err uz:=jc (jk fJ 2) λ_=>jc Vm λ_=>ahT _
theorem aus:Shr PY:=pU (pV f_ 2) λ_=>pU (Dr 8) λ_=>pU (pV PZ _) λ_=>pU (Dr 4) λ_=>pU (pV Vn _) λ_=>afo _ _
theorem akO:Err PY:=jc (jk fJ 2) λ_=>jc (zn 8) λ_=>jc (jk P5 _) λ_=>jc (zn 4) λ_=>jc (jk P6 _) λ_=>afp _ _
theorem aj1 (n:Nat) (h:n < 1000000):agk 8 (n:Int)=true:=by
 unfold agk
 simp
 omega
theorem uJ (n:Nat) (r:aG) (hn:n < 1000000) (hb:r.b.length < 800000000):gL (n:Int) r=some (if r.e=0 then (match eH fO n r.b with
  | .inl e=>(List.replicate n 0,⟨[],e⟩)
  | .inr (l,s)=>(l,⟨s,0⟩)) else (List.replicate n 0,r)):=by
 unfold gL
 rw [jH (aj1 n hn),Int.toNat_natCast]
 by_cases he:r.e=0
 ·rw [xS he,cond_true,if_pos he,PO r.b n (by omega) hn,Option.bind_some]
  cases h:eH fO n r.b with
  | inl e =>
   have:e≠0:=by rcases jk fJ n _ _ h with rfl | rfl<;>omega
   simp only
   rw [uV this]
   rfl
  | inr y=>rfl
 ·rw [uV he,cond_false,if_neg he]
theorem aqw (r:aG) (hb:r.b.length < 800000000) (he:r.e=0) {e:Int} (h:fO r.b=.inl e):gL 1 r=some ([0],⟨[],e⟩):=by
 have h1:=uJ 1 r (by omega) hb
 rw [show ((1:Nat):Int)=1 from rfl,if_pos he,show eH fO 1 r.b=.inl e from wH h] at h1
 exact h1
theorem adY (r:aG) (hb:r.b.length < 800000000) (he:r.e=0) {n:Int} {s:List UInt8} (h:fO r.b=.inr (n,s)):gL 1 r=some ([n],⟨s,0⟩):=by
 have h1:=uJ 1 r (by omega) hb
 rw [show ((1:Nat):Int)=1 from rfl,if_pos he,show eH fO 1 r.b=.inr ([n],s) by simp only [eH];rw [uT h];rfl] at h1
 exact h1
theorem adZ (m:Nat) (r:aG) (hb:r.b.length < 800000000) (he:r.e≠0):gq (m:Int) r=some (0,r):=by
 have h1:=uJ 1 r (by omega) hb
 rw [show ((1:Nat):Int)=1 from rfl,if_neg he] at h1
 unfold gq
 rw [h1,Option.bind_some]
 simp only [List.replicate]
 rw [show bV [(0:Int)] 0=some 0 from rfl,Option.bind_some,aT (by omega),cond_false]
theorem ad1 (m:Nat) (r:aG) (hb:r.b.length < 800000000) (he:r.e=0) {e:Int} (h:qh m r.b=.inl e):∃ c,gq (m:Int) r=some (0,⟨c,e⟩)∧c.length≤r.b.length:=by
 unfold qh at h
 unfold gq
 cases hn:fO r.b with
 | inl e' =>
  rw [wH hn] at h
  obtain rfl:=Sum.inl.inj h
  rw [aqw r hb he hn,Option.bind_some]
  rw [show bV [(0:Int)] 0=some 0 from rfl,Option.bind_some,aT (by omega),cond_false]
  exact ⟨_,rfl,by simp⟩
 | inr y =>
  obtain ⟨n,s⟩:=y
  have:=f_ _ _ _ hn
  rw [uT hn] at h
  rw [adY r hb he hn,Option.bind_some]
  rw [show bV [n] 0=some n from rfl,Option.bind_some]
  split at h
  ·cases h
  ·rename_i c
   obtain rfl:=Sum.inl.inj h
   rw [bf (by omega),cond_true]
   exact ⟨_,rfl,by omega⟩
theorem abu (m:Nat) (r:aG) (hb:r.b.length < 800000000) (he:r.e=0) {n:Int} {s:List UInt8} (h:qh m r.b=.inr (n,s)):gq (m:Int) r=some (n,⟨s,0⟩):=by
 unfold qh at h
 unfold gq
 cases hn:fO r.b with
 | inl e'=>rw [wH hn] at h;cases h
 | inr y =>
  obtain ⟨n',s'⟩:=y
  rw [uT hn] at h
  split at h
  ·rename_i c
   obtain ⟨rfl,rfl⟩:=Prod.mk.inj (Sum.inr.inj h)
   rw [adY r hb he hn,Option.bind_some]
   rw [show bV [n'] 0=some n' from rfl,Option.bind_some,aT (by omega),cond_false]
  ·cases h
theorem ahU (r:aG) (hb:r.b.length < 800000000) (he:r.e=0):kE r=some (match xY r.b with
  | .inl e=>(⟨[],[]⟩,⟨[],e⟩)
  | .inr (x,s)=>(x,⟨s,0⟩)):=by
 unfold kE xY
 have hx:=XR r.b 2 (by omega) (by omega)
 rw [show ((2:Nat):Int)=2 from rfl] at hx
 rw [xS he,cond_true,hx,Option.bind_some]
 cases h:eH kF 2 r.b with
 | inl e =>
  have:e≠0:=by rcases jk r_ 2 _ _ h with rfl | rfl<;>omega
  rw [wH h]
  simp only
  rw [uV this]
  rfl
 | inr y =>
  obtain ⟨l,s⟩:=y
  have hl:=zm h
  have s0:=nL ([]:List UInt8) hl 0 (by omega)
  have s1:=nL ([]:List UInt8) hl 1 (by omega)
  rw [show ((0:Nat):Int)=0 from rfl] at s0
  rw [show ((1:Nat):Int)=1 from rfl] at s1
  rw [uT h]
  simp only
  rw [xS rfl,cond_true,s0,Option.bind_some,s1,Option.bind_some]
theorem al7 (r:aG) (he:r.e≠0):kE r=some (⟨[],[]⟩,r):=by
 unfold kE
 rw [uV he,cond_false]
theorem ahV (r:aG) (hb:r.b.length < 800000000) (he:r.e=0):match uz r.b with
  | .inl e=>∃ x,ji r=some (x,⟨[],e⟩)
  | .inr (x,s)=>ji r=some (x,⟨s,0⟩):=by
 unfold ji uz
 have hx:=uJ 2 r (by omega) hb
 rw [show ((2:Nat):Int)=2 from rfl,if_pos he] at hx
 rw [hx]
 cases h:eH fO 2 r.b with
 | inl e =>
  have:e≠0:=by rcases jk fJ 2 _ _ h with rfl | rfl<;>omega
  rw [wH h]
  refine ⟨⟨0,0,⟨0,[]⟩⟩, ?_⟩
  simp only [Option.bind_some]
  rw [show bV (List.replicate 2 (0:Int)) 0=some 0 from rfl,Option.bind_some,show bV (List.replicate 2 (0:Int)) 1=some 0 from rfl,Option.bind_some,uV this]
  rfl
 | inr y =>
  obtain ⟨l,s⟩:=y
  have hl:=zm h
  have hs:=pV f_ 2 _ _ _ h
  have s0:=nL (0:Int) hl 0 (by omega)
  have s1:=nL (0:Int) hl 1 (by omega)
  rw [show ((0:Nat):Int)=0 from rfl] at s0
  rw [show ((1:Nat):Int)=1 from rfl] at s1
  rw [uT h]
  simp only [Option.bind_some]
  rw [s0,Option.bind_some,s1,Option.bind_some,xS rfl,cond_true,RG s (by omega),Option.bind_some]
  cases h2:PX s with
  | inl e =>
   rw [wH h2]
   exact ⟨_,rfl⟩
  | inr y =>
   obtain ⟨a,t⟩:=y
   rw [uT h2]
theorem al8 (r:aG) (hb:r.b.length < 800000000) (he:r.e≠0):ji r=some (⟨0,0,⟨0,[]⟩⟩,r):=by
 unfold ji
 have hx:=uJ 2 r (by omega) hb
 rw [show ((2:Nat):Int)=2 from rfl,if_neg he] at hx
 rw [hx,Option.bind_some]
 simp only
 rw [show bV (List.replicate 2 (0:Int)) 0=some 0 from rfl,Option.bind_some,show bV (List.replicate 2 (0:Int)) 1=some 0 from rfl,Option.bind_some,uV he,cond_false]
theorem sticky {α E:Type} {p:Pr α} (n:Nat) (hn:n < 1000000) (f:Int×aG×List α→Option ((Int×aG×List α)⊕(aG×List α))) (m:Nat) (hm:m < 700000000) (hp:Shr p) (he:Err p)
  (h1:∀ (i:Nat) (b:List UInt8) (acc:List α),i < n→b.length≤m→acc.length=i→match p b with
   | .inl e=>∃ x,f ((i:Int),⟨b,0⟩,acc)=some (.inl (((i+1:Nat):Int),⟨[],e⟩,acc++[x]))
   | .inr (x,r)=>f ((i:Int),⟨b,0⟩,acc)=some (.inl (((i+1:Nat):Int),⟨r,0⟩,acc++[x])))
  (h2:∀ (i:Nat) (b:List UInt8) (e:Int) (acc:List α),i < n→b.length≤m→e≠0→acc.length=i→∃ x,f ((i:Int),⟨b,e⟩,acc)=some (.inl (((i+1:Nat):Int),⟨b,e⟩,acc++[x])))
  (h3:∀ r acc,f ((n:Int),r,acc)=some (.inr (r,acc))) :
  (∀ (j k:Nat) (b:List UInt8) (e:Int) (acc:List α),j≤n→b.length≤m→e≠0→acc.length=n - j→j < k→∃ l,bQ f k (((n - j:Nat):Int),⟨b,e⟩,acc)=some (⟨b,e⟩,l)∧l.length=n) ∧
  ∀ (j k:Nat) (b:List UInt8) (acc:List α),j≤n→b.length≤m→acc.length=n - j→j < k→match eH p j b with
   | .inl e=>∃ l,bQ f k (((n - j:Nat):Int),⟨b,0⟩,acc)=some (⟨[],e⟩,l)∧l.length=n
   | .inr (l,r)=>bQ f k (((n - j:Nat):Int),⟨b,0⟩,acc)=some (⟨r,0⟩,acc++l):=by
 have bad:∀ (j k:Nat) (b:List UInt8) (e:Int) (acc:List α),j≤n→b.length≤m→e≠0→acc.length=n - j→j < k→∃ l,bQ f k (((n - j:Nat):Int),⟨b,e⟩,acc)=some (⟨b,e⟩,l)∧l.length=n:=by
  intro j
  induction j with
  | zero =>
   intro k b e acc _ _ _ ha hk
   obtain ⟨k,rfl⟩:∃ i,k=i+1:=⟨k - 1,by omega⟩
   exact ⟨acc,by simp only [bQ,Nat.sub_zero,h3],by omega⟩
  | succ j ih =>
   intro k b e acc hj hb hee ha hk
   obtain ⟨k,rfl⟩:∃ i,k=i+1:=⟨k - 1,by omega⟩
   obtain ⟨x,hx⟩:=h2 (n - (j+1)) b e acc (by omega) hb hee ha
   obtain ⟨l,i1,i2⟩:=ih k b e (acc++[x]) (by omega) hb hee (by simp;omega) (by omega)
   refine ⟨l, ?_,i2⟩
   simp only [bQ,hx]
   rw [show n - (j+1)+1=n - j by omega]
   exact i1
 refine ⟨bad, ?_⟩
 intro j
 induction j with
 | zero =>
  intro k b acc _ _ ha hk
  obtain ⟨k,rfl⟩:∃ i,k=i+1:=⟨k - 1,by omega⟩
  simp only [eH,bQ,Nat.sub_zero,h3,List.append_nil]
 | succ j ih =>
  intro k b acc hj hb ha hk
  obtain ⟨k,rfl⟩:∃ i,k=i+1:=⟨k - 1,by omega⟩
  have h:=h1 (n - (j+1)) b acc (by omega) hb ha
  simp only [eH,bH]
  cases hx:p b with
  | inl e =>
   rw [hx] at h
   obtain ⟨x,h⟩:=h
   have hne:e≠0:=by rcases he _ _ hx with rfl | rfl<;>omega
   obtain ⟨l,i1,i2⟩:=bad j k [] e (acc++[x]) (by omega) (by simp) hne (by simp;omega) (by omega)
   refine ⟨l, ?_,i2⟩
   simp only [bQ,h]
   rw [show n - (j+1)+1=n - j by omega]
   exact i1
  | inr y =>
   obtain ⟨x,r⟩:=y
   rw [hx] at h
   have hs:=hp _ _ _ hx
   have i:=ih k r (acc++[x]) (by omega) (by omega) (by simp;omega) (by omega)
   simp only at h ⊢
   cases hy:eH p j r with
   | inl e =>
    rw [hy] at i
    obtain ⟨l,i1,i2⟩:=i
    refine ⟨l, ?_,i2⟩
    simp only [bQ,h]
    rw [show n - (j+1)+1=n - j by omega]
    exact i1
   | inr z =>
    obtain ⟨l,s⟩:=z
    rw [hy] at i
    simp only at i ⊢
    simp only [bQ,h]
    rw [show n - (j+1)+1=n - j by omega,i]
    simp
end Go.Proofs.YtohoggieaanllaaGreat
