import Derived.Test.YtohoggieaanllaaGreatK4
set_option linter.all false
set_option linter.unusedSimpArgs false
namespace Go.Proofs.YtohoggieaanllaaGreat
def akt:aA:=⟨0,0,[],[]⟩
theorem Sq (x4:Int×aG) (x2 x3:Int) (n:Nat) (hx:x4.1=(n:Int)) (hn:n≤8) (b:List UInt8) (hb:b.length < 600000000) :
  (∀ e,e≠0→∃ l,nJ x4 x2 x3 (0,⟨b,e⟩,[])=some (⟨b,e⟩,l)∧l.length=n) ∧
  match gP MB n b with
   | .inl e=>∃ l,nJ x4 x2 x3 (0,⟨b,0⟩,[])=some (⟨[],e⟩,l)∧l.length=n
   | .inr (l,r)=>nJ x4 x2 x3 (0,⟨b,0⟩,[])=some (⟨r,0⟩,l):=by
 obtain ⟨p1,p2⟩:=sticky (E:=Unit) (p:=MB) n (by omega) (gM x4 x2 x3) b.length (by omega) ahm aaO
  (λi b' acc hi hb' ha=>by
   have hp:=ahn ⟨b',0⟩ (by simp only;omega) rfl
   unfold gM
   simp only
   rw [hx,aZ (by omega),cond_true,hp,Option.bind_some]
   simp only
   cases MB b' with
   | inl e =>
    simp only
    rw [jK (by unfold dh;simp;omega),bU (by omega) (by omega),cO]
    exact ⟨_,rfl⟩
   | inr y =>
    obtain ⟨x,r⟩:=y
    simp only
    rw [jK (by unfold dh;simp;omega),bU (by omega) (by omega),cO])
  (λi b' e acc hi hb' he ha=>by
   have hp:=alZ ⟨b',e⟩ he
   unfold gM
   simp only
   rw [hx,aZ (by omega),cond_true,hp,Option.bind_some]
   simp only
   rw [jK (by unfold dh;simp;omega),bU (by omega) (by omega),cO]
   exact ⟨_,rfl⟩)
  (λr acc=>by
   unfold gM
   simp only
   rw [hx,aV (by omega),cond_false])
 have q1:=λe he=>p1 n KK b e [] (Nat.le_refl _) (Nat.le_refl _) he (by simp) (by have:=rO;omega)
 have q2:=p2 n KK b [] (Nat.le_refl _) (Nat.le_refl _) (by simp) (by have:=rO;omega)
 rw [Nat.sub_self] at q1 q2
 refine ⟨q1, ?_⟩
 cases hq:gP MB n b with
 | inl e=>rw [hq] at q2;exact q2
 | inr y =>
  obtain ⟨l,r⟩:=y
  rw [hq] at q2
  simp only [List.nil_append] at q2
  exact q2
theorem Wi (qJ:Int×aG) (x2 x3:Int) (cu:aG×List au) (n:Nat) (hx:qJ.1=(n:Int)) (hn:n≤4) (b:List UInt8) (hb:b.length < 600000000) :
  (∀ e,e≠0→∃ l,kK qJ x2 x3 cu (0,⟨b,e⟩,[])=some (⟨b,e⟩,l)∧l.length=n) ∧
  match gP ME n b with
   | .inl e=>∃ l,kK qJ x2 x3 cu (0,⟨b,0⟩,[])=some (⟨[],e⟩,l)∧l.length=n
   | .inr (l,r)=>kK qJ x2 x3 cu (0,⟨b,0⟩,[])=some (⟨r,0⟩,l):=by
 obtain ⟨p1,p2⟩:=sticky (E:=Unit) (p:=ME) n (by omega) (gN qJ x2 x3 cu) b.length (by omega) aqu aaP
  (λi b' acc hi hb' ha=>by
   have hp:=aho ⟨b',0⟩ (by simp only;omega) rfl
   unfold gN
   simp only at hp ⊢
   rw [hx,aZ (by omega),cond_true]
   cases hq:ME b' with
   | inl e =>
    rw [hq] at hp
    obtain ⟨x,hp⟩:=hp
    rw [hp,Option.bind_some]
    simp only
    rw [jK (by unfold dh;simp;omega),bU (by omega) (by omega),cO]
    exact ⟨_,rfl⟩
   | inr y =>
    obtain ⟨x,r⟩:=y
    rw [hq] at hp
    simp only at hp ⊢
    rw [hp,Option.bind_some]
    simp only
    rw [jK (by unfold dh;simp;omega),bU (by omega) (by omega),cO])
  (λi b' e acc hi hb' he ha=>by
   have hp:=al0 ⟨b',e⟩ (by simp only;omega) he
   unfold gN
   simp only
   rw [hx,aZ (by omega),cond_true,hp,Option.bind_some]
   simp only
   rw [jK (by unfold dh;simp;omega),bU (by omega) (by omega),cO]
   exact ⟨_,rfl⟩)
  (λr acc=>by
   unfold gN
   simp only
   rw [hx,aV (by omega),cond_false])
 have q1:=λe he=>p1 n KK b e [] (Nat.le_refl _) (Nat.le_refl _) he (by simp) (by have:=rO;omega)
 have q2:=p2 n KK b [] (Nat.le_refl _) (Nat.le_refl _) (by simp) (by have:=rO;omega)
 rw [Nat.sub_self] at q1 q2
 refine ⟨q1, ?_⟩
 cases hq:gP ME n b with
 | inl e=>rw [hq] at q2;exact q2
 | inr y =>
  obtain ⟨l,r⟩:=y
  rw [hq] at q2
  simp only [List.nil_append] at q2
  exact q2
theorem auB (x2 x3:Int) (cu:aG×List au) (s:List UInt8) (l:List ak) (h1:cu.2.length≤8) (h2:l.length≤4):iE (⟨s,0⟩,l) x2 x3 cu=some (if qV ⟨x2,x3,cu.2,l⟩ then ⟨s,0⟩ else ⟨s,2⟩):=by
 unfold iE nK
 simp only
 rw [Nw rfl,cond_true,Ck _ (by simp only;omega) (by simp only;omega),Option.bind_some]
 cases qV ⟨x2,x3,cu.2,l⟩<;>rfl
theorem aaR (x2 x3:Int) (cu:aG×List au) (s:List UInt8) (e:Int) (he:e≠0) (l:List ak):iE (⟨s,e⟩,l) x2 x3 cu=some ⟨s,e⟩:=by
 unfold iE nK
 simp only
 rw [Hu he]
 rfl
theorem aaS (x2 x3:Int) (b:List UInt8) (e:Int) (he:e≠0) (hb:b.length < 600000000) (cu:aG×List au) (h12:cu.1=⟨b,e⟩) :
  ((fK 4 cu.1).bind λ(qJ:Int×aG)=>(kK qJ x2 x3 cu (0,qJ.2,[])).bind λ(om:(aG×List ak))=>(iE om x2 x3 cu).bind λ(Fa:aG)=>cond (Fa.e != 0) (some ((⟨0,0,[],[]⟩:aA),([]:List UInt8),Fa.e)) (some ((⟨x2,x3,cu.2,om.2⟩:aA),Fa.b,0)))=some (akt,[],e):=by
 have h4:=adr 4 cu.1 (by rw [h12];simp only;omega) (by rw [h12];exact he)
 rw [show ((4:Nat):Int)=4 from rfl] at h4
 rw [h4,Option.bind_some,h12]
 obtain ⟨l,l1,_⟩:=(Wi (0,⟨b,e⟩) x2 x3 cu 0 rfl (by omega) b hb).1 e he
 simp only
 rw [l1,Option.bind_some,aaR _ _ _ _ _ he,Option.bind_some]
 simp only
 rw [qZ he]
 rfl
theorem Ye (b:List UInt8) (hb:b.length < 600000000):lV b=some (match abX b with
  | .inl e=>(akt,[],e)
  | .inr (x,s)=>(x,s,0)):=by
 unfold lV abX
 have hx:=sU 2 ⟨b,0⟩ (by omega) (by simp only;omega)
 rw [show ((2:Nat):Int)=2 from rfl,if_pos rfl] at hx
 rw [hx]
 cases h1:gP jZ 2 b with
 | inl e =>
  have he:e≠0:=by rcases iR pX 2 _ _ h1 with rfl | rfl<;>omega
  rw [vG h1]
  simp only [Option.bind_some]
  rw [show bO (List.replicate 2 (0:Int)) 0=some 0 from rfl,Option.bind_some,show bO (List.replicate 2 (0:Int)) 1=some 0 from rfl,Option.bind_some]
  have h8:=adr 8 ⟨[],e⟩ (by simp) he
  rw [show ((8:Nat):Int)=8 from rfl] at h8
  rw [h8,Option.bind_some]
  obtain ⟨l,l1,_⟩:=(Sq (0,⟨[],e⟩) 0 0 0 rfl (by omega) [] (by simp)).1 e he
  simp only
  rw [l1,Option.bind_some]
  exact aaS 0 0 [] e he (by simp) _ rfl
 | inr y =>
  obtain ⟨n,c⟩:=y
  have hl:=yO h1
  have hc:=sw uo 2 _ _ _ h1
  have s0:=mI (0:Int) hl 0 (by omega)
  have s1:=mI (0:Int) hl 1 (by omega)
  rw [show ((0:Nat):Int)=0 from rfl] at s0
  rw [show ((1:Nat):Int)=1 from rfl] at s1
  rw [tK h1]
  simp only [Option.bind_some]
  rw [s0,Option.bind_some,s1,Option.bind_some]
  generalize n.getD 0 0=a0
  generalize n.getD 1 0=a1
  cases h2:Ei 8 c with
  | inl e =>
   have he:e≠0:=by rcases Bj 8 _ _ h2 with rfl | rfl<;>omega
   rw [vG h2]
   obtain ⟨d,h8,hd⟩:=ads 8 ⟨c,0⟩ (by simp only;omega) rfl h2
   rw [show ((8:Nat):Int)=8 from rfl] at h8
   simp only at hd
   rw [h8,Option.bind_some]
   obtain ⟨l,l1,_⟩:=(Sq (0,⟨d,e⟩) a0 a1 0 rfl (by omega) d (by omega)).1 e he
   simp only
   rw [l1,Option.bind_some]
   exact aaS a0 a1 d e he (by omega) _ rfl
  | inr y =>
   obtain ⟨k,d⟩:=y
   have hk:=aeV h2
   have hd:=LA 8 _ _ _ h2
   rw [tK h2]
   have h8:=aaQ 8 ⟨c,0⟩ (by simp only;omega) rfl h2
   rw [show ((8:Nat):Int)=8 from rfl] at h8
   rw [h8,Option.bind_some]
   obtain ⟨k,rfl⟩:∃ k':Nat,k=(k':Int):=⟨k.toNat,by omega⟩
   have hp:=(Sq ((k:Int),⟨d,0⟩) a0 a1 k rfl (by omega) d (by omega)).2
   rw [Int.toNat_natCast]
   cases h3:gP MB k d with
   | inl e =>
    have he:e≠0:=by rcases iR aaO k _ _ h3 with rfl | rfl<;>omega
    rw [h3] at hp
    obtain ⟨l,l1,_⟩:=hp
    rw [vG h3]
    simp only
    rw [l1,Option.bind_some]
    exact aaS a0 a1 [] e he (by simp) _ rfl
   | inr y =>
    obtain ⟨ps,f⟩:=y
    rw [h3] at hp
    have hps:=yO h3
    have hf:=sw ahm k _ _ _ h3
    rw [tK h3]
    simp only at hp ⊢
    rw [hp,Option.bind_some]
    simp only
    cases h4:Ei 4 f with
    | inl e =>
     have he:e≠0:=by rcases Bj 4 _ _ h4 with rfl | rfl<;>omega
     rw [vG h4]
     obtain ⟨g,g4,hg⟩:=ads 4 ⟨f,0⟩ (by simp only;omega) rfl h4
     rw [show ((4:Nat):Int)=4 from rfl] at g4
     simp only at hg
     rw [g4,Option.bind_some]
     obtain ⟨l,l1,_⟩:=(Wi (0,⟨g,e⟩) a0 a1 (⟨f,0⟩,ps) 0 rfl (by omega) g (by omega)).1 e he
     simp only
     rw [l1,Option.bind_some,aaR _ _ _ _ _ he,Option.bind_some]
     simp only
     rw [qZ he]
     rfl
    | inr y =>
     obtain ⟨j,g⟩:=y
     have hj:=aeV h4
     have hg:=LA 4 _ _ _ h4
     rw [tK h4]
     have g4:=aaQ 4 ⟨f,0⟩ (by simp only;omega) rfl h4
     rw [show ((4:Nat):Int)=4 from rfl] at g4
     rw [g4,Option.bind_some]
     obtain ⟨j,rfl⟩:∃ j':Nat,j=(j':Int):=⟨j.toNat,by omega⟩
     have hs:=(Wi ((j:Int),⟨g,0⟩) a0 a1 (⟨f,0⟩,ps) j rfl (by omega) g (by omega)).2
     rw [Int.toNat_natCast]
     cases h5:gP ME j g with
     | inl e =>
      have he:e≠0:=by rcases iR aaP j _ _ h5 with rfl | rfl<;>omega
      rw [h5] at hs
      obtain ⟨l,l1,_⟩:=hs
      rw [vG h5]
      simp only
      rw [l1,Option.bind_some,aaR _ _ _ _ _ he,Option.bind_some]
      simp only
      rw [qZ he]
      rfl
     | inr y =>
      obtain ⟨ss,t⟩:=y
      rw [h5] at hs
      have hss:=yO h5
      rw [tK h5]
      simp only at hs ⊢
      rw [hs,Option.bind_some,auB _ _ _ _ _ (by simp only;omega) (by omega),Option.bind_some]
      unfold M7
      simp only
      cases qV ⟨a0,a1,ps,ss⟩<;>rfl
end Go.Proofs.YtohoggieaanllaaGreat
