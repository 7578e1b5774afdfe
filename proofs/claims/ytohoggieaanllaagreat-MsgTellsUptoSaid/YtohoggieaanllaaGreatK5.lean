import Derived.Test.YtohoggieaanllaaGreatK4
set_option linter.all false
set_option linter.unusedSimpArgs false
namespace Go.Proofs.YtohoggieaanllaaGreat
def akP:aC:=⟨0,0,[],[]⟩
theorem Td (x4:Int×aG) (x2 x3:Int) (n:Nat) (hx:x4.1=(n:Int)) (hn:n≤8) (b:List UInt8) (hb:b.length < 600000000) :
  (∀ e,e≠0→∃ l,oG x4 x2 x3 (0,⟨b,e⟩,[])=some (⟨b,e⟩,l)∧l.length=n) ∧
  match eH xY n b with
   | .inl e=>∃ l,oG x4 x2 x3 (0,⟨b,0⟩,[])=some (⟨[],e⟩,l)∧l.length=n
   | .inr (l,r)=>oG x4 x2 x3 (0,⟨b,0⟩,[])=some (⟨r,0⟩,l):=by
 obtain ⟨p1,p2⟩:=sticky (E:=Unit) (p:=xY) n (by omega) (ig x4 x2 x3) b.length (by omega) PZ P5
  (λi b' acc hi hb' ha=>by
   have hp:=ahU ⟨b',0⟩ (by simp only;omega) rfl
   unfold ig
   simp only
   rw [hx,bf (by omega),cond_true,hp,Option.bind_some]
   simp only
   cases xY b' with
   | inl e =>
    simp only
    rw [jH (by unfold dx;simp;omega),bM (by omega) (by omega),dA]
    exact ⟨_,rfl⟩
   | inr y =>
    obtain ⟨x,r⟩:=y
    simp only
    rw [jH (by unfold dx;simp;omega),bM (by omega) (by omega),dA])
  (λi b' e acc hi hb' he ha=>by
   have hp:=al7 ⟨b',e⟩ he
   unfold ig
   simp only
   rw [hx,bf (by omega),cond_true,hp,Option.bind_some]
   simp only
   rw [jH (by unfold dx;simp;omega),bM (by omega) (by omega),dA]
   exact ⟨_,rfl⟩)
  (λr acc=>by
   unfold ig
   simp only
   rw [hx,aT (by omega),cond_false])
 have q1:=λe he=>p1 n KK b e [] (Nat.le_refl _) (Nat.le_refl _) he (by simp) (by have:=kr;omega)
 have q2:=p2 n KK b [] (Nat.le_refl _) (Nat.le_refl _) (by simp) (by have:=kr;omega)
 rw [Nat.sub_self] at q1 q2
 refine ⟨q1, ?_⟩
 cases hq:eH xY n b with
 | inl e=>rw [hq] at q2;exact q2
 | inr y =>
  obtain ⟨l,r⟩:=y
  rw [hq] at q2
  simp only [List.nil_append] at q2
  exact q2
theorem Xe (qE:Int×aG) (x2 x3:Int) (dD:aG×List av) (n:Nat) (hx:qE.1=(n:Int)) (hn:n≤4) (b:List UInt8) (hb:b.length < 600000000) :
  (∀ e,e≠0→∃ l,lF qE x2 x3 dD (0,⟨b,e⟩,[])=some (⟨b,e⟩,l)∧l.length=n) ∧
  match eH uz n b with
   | .inl e=>∃ l,lF qE x2 x3 dD (0,⟨b,0⟩,[])=some (⟨[],e⟩,l)∧l.length=n
   | .inr (l,r)=>lF qE x2 x3 dD (0,⟨b,0⟩,[])=some (⟨r,0⟩,l):=by
 obtain ⟨p1,p2⟩:=sticky (E:=Unit) (p:=uz) n (by omega) (iq qE x2 x3 dD) b.length (by omega) Vn P6
  (λi b' acc hi hb' ha=>by
   have hp:=ahV ⟨b',0⟩ (by simp only;omega) rfl
   unfold iq
   simp only at hp ⊢
   rw [hx,bf (by omega),cond_true]
   cases hq:uz b' with
   | inl e =>
    rw [hq] at hp
    obtain ⟨x,hp⟩:=hp
    rw [hp,Option.bind_some]
    simp only
    rw [jH (by unfold dx;simp;omega),bM (by omega) (by omega),dA]
    exact ⟨_,rfl⟩
   | inr y =>
    obtain ⟨x,r⟩:=y
    rw [hq] at hp
    simp only at hp ⊢
    rw [hp,Option.bind_some]
    simp only
    rw [jH (by unfold dx;simp;omega),bM (by omega) (by omega),dA])
  (λi b' e acc hi hb' he ha=>by
   have hp:=al8 ⟨b',e⟩ (by simp only;omega) he
   unfold iq
   simp only
   rw [hx,bf (by omega),cond_true,hp,Option.bind_some]
   simp only
   rw [jH (by unfold dx;simp;omega),bM (by omega) (by omega),dA]
   exact ⟨_,rfl⟩)
  (λr acc=>by
   unfold iq
   simp only
   rw [hx,aT (by omega),cond_false])
 have q1:=λe he=>p1 n KK b e [] (Nat.le_refl _) (Nat.le_refl _) he (by simp) (by have:=kr;omega)
 have q2:=p2 n KK b [] (Nat.le_refl _) (Nat.le_refl _) (by simp) (by have:=kr;omega)
 rw [Nat.sub_self] at q1 q2
 refine ⟨q1, ?_⟩
 cases hq:eH uz n b with
 | inl e=>rw [hq] at q2;exact q2
 | inr y =>
  obtain ⟨l,r⟩:=y
  rw [hq] at q2
  simp only [List.nil_append] at q2
  exact q2
theorem aut (x2 x3:Int) (dD:aG×List av) (s:List UInt8) (l:List au) (h1:dD.2.length≤8) (h2:l.length≤4):iT (⟨s,0⟩,l) x2 x3 dD=some (if kH ⟨x2,x3,dD.2,l⟩ then ⟨s,0⟩ else ⟨s,2⟩):=by
 unfold iT oH
 simp only
 rw [xS rfl,cond_true,C8 _ (by simp only;omega) (by simp only;omega),Option.bind_some]
 cases kH ⟨x2,x3,dD.2,l⟩<;>rfl
theorem abv (x2 x3:Int) (dD:aG×List av) (s:List UInt8) (e:Int) (he:e≠0) (l:List au):iT (⟨s,e⟩,l) x2 x3 dD=some ⟨s,e⟩:=by
 unfold iT oH
 simp only
 rw [uV he]
 rfl
theorem abw (x2 x3:Int) (b:List UInt8) (e:Int) (he:e≠0) (hb:b.length < 600000000) (dD:aG×List av) (h12:dD.1=⟨b,e⟩) :
  ((gq 4 dD.1).bind λ(qE:Int×aG)=>(lF qE x2 x3 dD (0,qE.2,[])).bind λ(mh:(aG×List au))=>(iT mh x2 x3 dD).bind λ(FP:aG)=>cond (FP.e != 0) (some ((⟨0,0,[],[]⟩:aC),([]:List UInt8),FP.e)) (some ((⟨x2,x3,dD.2,mh.2⟩:aC),FP.b,0)))=some (akP,[],e):=by
 have h4:=adZ 4 dD.1 (by rw [h12];simp only;omega) (by rw [h12];exact he)
 rw [show ((4:Nat):Int)=4 from rfl] at h4
 rw [h4,Option.bind_some,h12]
 obtain ⟨l,l1,_⟩:=(Xe (0,⟨b,e⟩) x2 x3 dD 0 rfl (by omega) b hb).1 e he
 simp only
 rw [l1,Option.bind_some,abv _ _ _ _ _ he,Option.bind_some]
 simp only
 rw [mD he]
 rfl
theorem YX (b:List UInt8) (hb:b.length < 600000000):mP b=some (match PY b with
  | .inl e=>(akP,[],e)
  | .inr (x,s)=>(x,s,0)):=by
 unfold mP PY
 have hx:=uJ 2 ⟨b,0⟩ (by omega) (by simp only;omega)
 rw [show ((2:Nat):Int)=2 from rfl,if_pos rfl] at hx
 rw [hx]
 cases h1:eH fO 2 b with
 | inl e =>
  have he:e≠0:=by rcases jk fJ 2 _ _ h1 with rfl | rfl<;>omega
  rw [wH h1]
  simp only [Option.bind_some]
  rw [show bV (List.replicate 2 (0:Int)) 0=some 0 from rfl,Option.bind_some,show bV (List.replicate 2 (0:Int)) 1=some 0 from rfl,Option.bind_some]
  have h8:=adZ 8 ⟨[],e⟩ (by simp) he
  rw [show ((8:Nat):Int)=8 from rfl] at h8
  rw [h8,Option.bind_some]
  obtain ⟨l,l1,_⟩:=(Td (0,⟨[],e⟩) 0 0 0 rfl (by omega) [] (by simp)).1 e he
  simp only
  rw [l1,Option.bind_some]
  exact abw 0 0 [] e he (by simp) _ rfl
 | inr y =>
  obtain ⟨n,c⟩:=y
  have hl:=zm h1
  have hc:=pV f_ 2 _ _ _ h1
  have s0:=nL (0:Int) hl 0 (by omega)
  have s1:=nL (0:Int) hl 1 (by omega)
  rw [show ((0:Nat):Int)=0 from rfl] at s0
  rw [show ((1:Nat):Int)=1 from rfl] at s1
  rw [uT h1]
  simp only [Option.bind_some]
  rw [s0,Option.bind_some,s1,Option.bind_some]
  generalize n.getD 0 0=a0
  generalize n.getD 1 0=a1
  cases h2:qh 8 c with
  | inl e =>
   have he:e≠0:=by rcases zn 8 _ _ h2 with rfl | rfl<;>omega
   rw [wH h2]
   obtain ⟨d,h8,hd⟩:=ad1 8 ⟨c,0⟩ (by simp only;omega) rfl h2
   rw [show ((8:Nat):Int)=8 from rfl] at h8
   simp only at hd
   rw [h8,Option.bind_some]
   obtain ⟨l,l1,_⟩:=(Td (0,⟨d,e⟩) a0 a1 0 rfl (by omega) d (by omega)).1 e he
   simp only
   rw [l1,Option.bind_some]
   exact abw a0 a1 d e he (by omega) _ rfl
  | inr y =>
   obtain ⟨k,d⟩:=y
   have hk:=abt h2
   have hd:=Dr 8 _ _ _ h2
   rw [uT h2]
   have h8:=abu 8 ⟨c,0⟩ (by simp only;omega) rfl h2
   rw [show ((8:Nat):Int)=8 from rfl] at h8
   rw [h8,Option.bind_some]
   obtain ⟨k,rfl⟩:∃ k':Nat,k=(k':Int):=⟨k.toNat,by omega⟩
   have hp:=(Td ((k:Int),⟨d,0⟩) a0 a1 k rfl (by omega) d (by omega)).2
   rw [Int.toNat_natCast]
   cases h3:eH xY k d with
   | inl e =>
    have he:e≠0:=by rcases jk P5 k _ _ h3 with rfl | rfl<;>omega
    rw [h3] at hp
    obtain ⟨l,l1,_⟩:=hp
    rw [wH h3]
    simp only
    rw [l1,Option.bind_some]
    exact abw a0 a1 [] e he (by simp) _ rfl
   | inr y =>
    obtain ⟨ps,f⟩:=y
    rw [h3] at hp
    have hps:=zm h3
    have hf:=pV PZ k _ _ _ h3
    rw [uT h3]
    simp only at hp ⊢
    rw [hp,Option.bind_some]
    simp only
    cases h4:qh 4 f with
    | inl e =>
     have he:e≠0:=by rcases zn 4 _ _ h4 with rfl | rfl<;>omega
     rw [wH h4]
     obtain ⟨g,g4,hg⟩:=ad1 4 ⟨f,0⟩ (by simp only;omega) rfl h4
     rw [show ((4:Nat):Int)=4 from rfl] at g4
     simp only at hg
     rw [g4,Option.bind_some]
     obtain ⟨l,l1,_⟩:=(Xe (0,⟨g,e⟩) a0 a1 (⟨f,0⟩,ps) 0 rfl (by omega) g (by omega)).1 e he
     simp only
     rw [l1,Option.bind_some,abv _ _ _ _ _ he,Option.bind_some]
     simp only
     rw [mD he]
     rfl
    | inr y =>
     obtain ⟨j,g⟩:=y
     have hj:=abt h4
     have hg:=Dr 4 _ _ _ h4
     rw [uT h4]
     have g4:=abu 4 ⟨f,0⟩ (by simp only;omega) rfl h4
     rw [show ((4:Nat):Int)=4 from rfl] at g4
     rw [g4,Option.bind_some]
     obtain ⟨j,rfl⟩:∃ j':Nat,j=(j':Int):=⟨j.toNat,by omega⟩
     have hs:=(Xe ((j:Int),⟨g,0⟩) a0 a1 (⟨f,0⟩,ps) j rfl (by omega) g (by omega)).2
     rw [Int.toNat_natCast]
     cases h5:eH uz j g with
     | inl e =>
      have he:e≠0:=by rcases jk P6 j _ _ h5 with rfl | rfl<;>omega
      rw [h5] at hs
      obtain ⟨l,l1,_⟩:=hs
      rw [wH h5]
      simp only
      rw [l1,Option.bind_some,abv _ _ _ _ _ he,Option.bind_some]
      simp only
      rw [mD he]
      rfl
     | inr y =>
      obtain ⟨ss,t⟩:=y
      rw [h5] at hs
      have hss:=zm h5
      rw [uT h5]
      simp only at hs ⊢
      rw [hs,Option.bind_some,aut _ _ _ _ _ (by simp only;omega) (by omega),Option.bind_some]
      unfold Ag
      simp only
      cases kH ⟨a0,a1,ps,ss⟩<;>rfl
end Go.Proofs.YtohoggieaanllaaGreat
