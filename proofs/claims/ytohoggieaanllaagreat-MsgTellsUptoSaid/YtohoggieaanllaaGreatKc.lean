import Derived.Test.YtohoggieaanllaaGreatKb
set_option linter.all false
set_option linter.unusedSimpArgs false
namespace Go.Proofs.YtohoggieaanllaaGreat
theorem awf (m:Int) (hm:0≤m) (b:List UInt8) (e:Int) (hb:b.length < 500000000):(e≠0→eu m ⟨b,e⟩=some (0,⟨b,e⟩))∧(match qh m b with
  | .inl er=>∃ s,eu m ⟨b,0⟩=some (0,⟨s,er⟩)∧s.length≤b.length
  | .inr (n,s)=>eu m ⟨b,0⟩=some (n,⟨s,0⟩)):=by
 obtain ⟨h1,h2⟩:=qj b e hb
 unfold eu tV
 refine ⟨λhe=>?_, ?_⟩
 ·obtain ⟨x,hx⟩:=h1 he
  rw [hx,Option.bind_some]
  simp only
  rw [Ht,if_neg he]
  cases decide (x > m)
  ·simp only [cond_false,Option.bind_some]
   rw [mD he];rfl
  ·simp only [cond_true,Option.bind_some]
   rw [mD he];rfl
 ·unfold qh bH
  cases hp:fO b with
  | inl er =>
   have he:er≠0:=by rcases fJ _ _ hp with rfl | rfl<;>omega
   rw [hp] at h2
   obtain ⟨x,s,hx,hs⟩:=h2
   refine ⟨s, ?_,hs⟩
   rw [hx,Option.bind_some]
   simp only
   rw [Ht,if_neg he]
   cases decide (x > m)
   ·simp only [cond_false,Option.bind_some]
    rw [mD he];rfl
   ·simp only [cond_true,Option.bind_some]
    rw [mD he];rfl
  | inr y =>
   obtain ⟨n,s⟩:=y
   have hs:=f_ _ _ _ hp
   rw [hp] at h2
   simp only at h2 ⊢
   rw [h2,Option.bind_some]
   simp only
   rw [Ht,if_pos rfl]
   by_cases c:n≤m
   ·rw [aT (by omega),if_pos c]
    rfl
   ·rw [bf (by omega),if_neg c]
    exact ⟨s,rfl,hs⟩
theorem pX.cnt {β:Type} {g:Int→uD→Option (β×uD)} {q:Int→Pr β} (m:Nat) (k:∀ n:Nat,n≤m→pX (g (n:Int)) (q (n:Int))):pX (λr=>(eu (m:Int) r).bind λy=>g y.1 y.2) (bH (qh (m:Int)) q):=by
 intro b e hb
 obtain ⟨h1,h2⟩:=awf (m:Int) (by omega) b e hb
 have k0:=k 0 (by omega)
 refine ⟨λhe=>?_, ?_⟩
 ·simp only [h1 he,Option.bind_some]
  exact (k0 b e hb).1 he
 ·unfold bH
  cases hp:qh (m:Int) b with
  | inl er =>
   have he:er≠0:=by rcases zn _ _ _ hp with rfl | rfl<;>omega
   rw [hp] at h2
   obtain ⟨s,hx,hs⟩:=h2
   obtain ⟨y,hy⟩:=(k0 s er (by omega)).1 he
   refine ⟨y,s, ?_,hs⟩
   simp only [hx,Option.bind_some]
   exact hy
  | inr y =>
   obtain ⟨n,s⟩:=y
   have hn:=abt hp
   have hs:=Dr _ _ _ _ hp
   rw [hp] at h2
   obtain ⟨n,rfl⟩:∃ n':Nat,n=(n':Int):=⟨n.toNat,by omega⟩
   have h3:=(k n (by omega) s 0 (by omega)).2
   simp only at h2 ⊢
   simp only [h2,Option.bind_some]
   cases hq:q (n:Int) s with
   | inl er =>
    rw [hq] at h3
    obtain ⟨z,t,hz,ht⟩:=h3
    exact ⟨z,t,hz,by omega⟩
   | inr z =>
    rw [hq] at h3
    exact h3
theorem ah2 {α:Type} {p:Pr α} (f:Int×uD×List α→Option ((Int×uD×List α)⊕(uD×List α))) (hp:Shr p) (he:Err p)
  (h0:∀ (k:Nat) b e acc,(k=0∨e≠0)→f ((k:Int),⟨b,e⟩,acc)=some (.inr (⟨b,e⟩,acc)))
  (h1:∀ (k:Nat) b acc,b.length < 500000000→k < 100→acc.length < 100→match p b with
   | .inl e=>∃ x s,f (((k+1:Nat):Int),⟨b,0⟩,acc)=some (.inl ((k:Int),⟨s,e⟩,acc++[x]))∧s.length≤b.length
   | .inr (x,s)=>f (((k+1:Nat):Int),⟨b,0⟩,acc)=some (.inl ((k:Int),⟨s,0⟩,acc++[x]))) :
  ∀ (k j:Nat) b acc,k < j→b.length < 500000000→acc.length+k≤90→match eH p k b with
   | .inl e=>∃ l s,bQ f j ((k:Int),⟨b,0⟩,acc)=some (⟨s,e⟩,l)∧l.length≤acc.length+k∧s.length≤b.length
   | .inr (l,s)=>bQ f j ((k:Int),⟨b,0⟩,acc)=some (⟨s,0⟩,acc++l)
 | 0,j,b,acc,hj,_,_=>by
  obtain ⟨j,rfl⟩:∃ i,j=i+1:=⟨j - 1,by omega⟩
  simp only [eH,bQ,h0 0 b 0 acc (.inl rfl),List.append_nil]
 | k+1,j,b,acc,hj,hb,ha=>by
  obtain ⟨j,rfl⟩:∃ i,j=i+1:=⟨j - 1,by omega⟩
  have h:=h1 k b acc hb (by omega) (by omega)
  simp only [eH,bH]
  cases hx:p b with
  | inl e =>
   rw [hx] at h
   obtain ⟨x,s,h,hs⟩:=h
   have hne:e≠0:=by rcases he _ _ hx with rfl | rfl<;>omega
   obtain ⟨j,rfl⟩:∃ i,j=i+1:=⟨j - 1,by omega⟩
   refine ⟨acc++[x],s, ?_,by simp only [List.length_append,List.length_singleton];omega,hs⟩
   simp only [bQ,h,h0 k s e (acc++[x]) (.inr hne)]
  | inr y =>
   obtain ⟨x,s⟩:=y
   rw [hx] at h
   have hs:=hp _ _ _ hx
   have i:=ah2 f hp he h0 h1 k j s (acc++[x]) (by omega) (by omega) (by simp;omega)
   simp only at h ⊢
   cases hy:eH p k s with
   | inl e =>
    rw [hy] at i
    obtain ⟨l,t,i1,i2,i3⟩:=i
    refine ⟨l,t, ?_,by simp at i2;omega,by omega⟩
    simp only [bQ,h]
    exact i1
   | inr z =>
    obtain ⟨l,t⟩:=z
    rw [hy] at i
    simp only at i ⊢
    simp only [bQ,h]
    rw [i]
    simp
theorem pX.loop {α β:Type} {p:Pr α} (c:Nat) {F:uD→Option (uD×List α)} {g:List α→uD→Option (β×uD)} {q:List α→Pr β} (hp:Shr p) (he:Err p)
  (h1:∀ b e,e≠0→F ⟨b,e⟩=some (⟨b,e⟩,[]))
  (h2:∀ b,b.length < 500000000→match eH p c b with
   | .inl e=>∃ l s,F ⟨b,0⟩=some (⟨s,e⟩,l)∧l.length≤c∧s.length≤b.length
   | .inr (l,s)=>F ⟨b,0⟩=some (⟨s,0⟩,l)) (k:∀ l,l.length≤c→pX (g l) (q l)):pX (λr=>(F r).bind λy=>g y.2 y.1) (bH (eH p c) q):=by
 intro b e hb
 have h2:=h2 b hb
 refine ⟨λhee=>?_, ?_⟩
 ·simp only [h1 b e hee,Option.bind_some]
  exact (k [] (by simp) b e hb).1 hee
 ·unfold bH
  cases hx:eH p c b with
  | inl er =>
   have hne:er≠0:=by rcases jk he c _ _ hx with rfl | rfl<;>omega
   rw [hx] at h2
   obtain ⟨l,s,hf,hl,hs⟩:=h2
   obtain ⟨y,hy⟩:=(k l hl s er (by omega)).1 hne
   refine ⟨y,s, ?_,hs⟩
   simp only [hf,Option.bind_some]
   exact hy
  | inr y =>
   obtain ⟨l,s⟩:=y
   have hl:=zm hx
   have hs:=pV hp c _ _ _ hx
   rw [hx] at h2
   have h3:=(k l (by omega) s 0 (by omega)).2
   simp only at h2 ⊢
   simp only [h2,Option.bind_some]
   cases hq:q l s with
   | inl er =>
    rw [hq] at h3
    obtain ⟨z,t,hz,ht⟩:=h3
    exact ⟨z,t,hz,by omega⟩
   | inr z =>
    rw [hq] at h3
    exact h3
def pr1 (a:List UInt8) (r:uD):Option (av×uD):=(fE r).bind λx=>some (⟨a,x.1⟩,x.2)
def pr0 (r:uD):=(fE r).bind λx=>pr1 x.1 x.2
theorem awg (a:List UInt8):pX (pr1 a) (bH kF λs=>λb=>.inr (⟨a,s⟩,b)):=pX.seq (g:=λx r=>some ((⟨a,x⟩:av),r)) Qp r_ yY λs=>pX.ret (⟨a,s⟩:av)
theorem awh:pX pr0 xY:=by
 have e:xY=bH kF λa=>bH kF λs=>λb=>.inr (⟨a,s⟩,b):=by
  unfold xY
  simp only [eH,Ms,Vr]
  rfl
 rw [e]
 exact pX.seq (g:=λx r=>pr1 x r) Qp r_ yY λa=>awg a
def se2 (a b:Int) (r:uD):Option (au×uD):=(jU r).bind λx=>some (⟨a,b,x.1⟩,x.2)
def se1 (a:Int) (r:uD):=(bB r).bind λx=>se2 a x.1 x.2
def se0 (r:uD):=(bB r).bind λx=>se1 x.1 x.2
theorem awi (a b:Int):pX (se2 a b) (bH PX λs=>λr=>.inr (⟨a,b,s⟩,r)):=pX.seq (g:=λx r=>some ((⟨a,b,x⟩:au),r)) aqH Vm Zj λs=>pX.ret (⟨a,b,s⟩:au)
theorem awj (a:Int):pX (se1 a) (bH fO λb=>bH PX λs=>λr=>.inr (⟨a,b,s⟩,r)):=pX.seq (g:=λx r=>se2 a x r) qj fJ f_ λb=>awi a b
theorem awk:pX se0 uz:=by
 have e:uz=bH fO λa=>bH fO λb=>bH PX λs=>λr=>.inr (⟨a,b,s⟩,r):=by
  unfold uz
  simp only [eH,Ms,Vr]
  rfl
 rw [e]
 exact pX.seq (g:=λx r=>se1 x r) qj fJ f_ λa=>awj a
abbrev zz:Int×uD:=(0,⟨[],0⟩)
def im5 (x:aC) (r:uD):Option (aC×uD):=(sJ x).bind λz=>cond (!z) ((iD 2 r).bind λy=>some (x,y)) (some (x,r))
def im4 (a b:Int) (ps:List av) (d:Int) (r:uD):=(oO zz zz (⟨[],0⟩,[]) (d,r,[])).bind λy=>im5 ⟨a,b,ps,y.2⟩ y.1
def im3 (a b:Int) (ps:List av) (r:uD):=(eu 4 r).bind λy=>im4 a b ps y.1 y.2
def im2 (a b:Int) (c:Int) (r:uD):=(oL zz zz (c,r,[])).bind λy=>im3 a b y.2 y.1
def im1 (a b:Int) (r:uD):=(eu 8 r).bind λy=>im2 a b y.1 y.2
def im0 (a:Int) (r:uD):=(bB r).bind λy=>im1 a y.1 y.2
theorem axW:qw=λr=>(bB r).bind λy=>im0 y.1 y.2:=rfl
theorem awl (x:aC) (h1:x.Pairs.length≤8) (h2:x.dN.length≤4):pX (im5 x) (Ag kH x):=aj8 x _ _ (Hr x (by omega) (by omega))
theorem axX (a b:Int) (c:Nat) (hc:c≤8) {g:List av→uD→Option (aC×uD)} {q:List av→Pr aC} (k:∀ l,l.length≤c→pX (g l) (q l)):pX (λr=>(oL zz zz ((c:Int),r,[])).bind λy=>g y.2 y.1) (bH (eH xY c) q):=by
 have h0:∀ (k:Nat) b e acc,(k=0∨e≠0)→gM zz zz ((k:Int),⟨b,e⟩,acc)=some (.inr (⟨b,e⟩,acc)):=λk b e acc h=>by
  unfold gM oK
  simp only
  by_cases hk:k=0
  ·rw [aT (by omega)];rfl
  ·rw [bf (by omega),uV (h.resolve_left hk)];rfl
 refine pX.loop c PZ P5 (λb e he=>?_) (λb hb=>?_) k
 ·unfold oL
  have:KK=(KK - 1)+1:=by have:=kr;omega
  rw [this]
  simp only [bQ,h0 c b e [] (.inr he)]
 ·have:=ah2 (p:=xY) (gM zz zz) PZ P5 h0 (λk b acc hb hk ha=>by
   have hp:=(awh b 0 hb).2
   have e:gM zz zz (((k+1:Nat):Int),⟨b,0⟩,acc)=(pr0 ⟨b,0⟩).bind λy=>some (.inl ((k:Int),y.2,acc++[y.1])):=by
    unfold gM oK pr0 pr1
    simp only
    rw [bf (by omega),xS rfl]
    simp only [cond_true,Option.bind_some,jO,Option.bind_assoc]
    congr 1;funext x;congr 1;funext y
    rw [jH (by unfold dx;simp;omega),bM (by omega) (by omega),show ((k+1:Nat):Int) - 1=(k:Int) by omega]
   rw [e]
   cases hq:xY b with
   | inl er =>
    rw [hq] at hp
    obtain ⟨x,s,hx,hs⟩:=hp
    exact ⟨x,s,by rw [hx];rfl,hs⟩
   | inr y =>
    rw [hq] at hp
    simp only at hp ⊢
    rw [hp]
    rfl) c KK b [] (by have:=kr;omega) hb (by simp;omega)
  cases hq:eH xY c b with
  | inl er =>
   rw [hq] at this
   obtain ⟨l,s,h1,h2,h3⟩:=this
   exact ⟨l,s,h1,by simpa using h2,h3⟩
  | inr y =>
   rw [hq] at this
   simp only [List.nil_append] at this
   exact this
theorem axY (c:Nat) (hc:c≤4) {g:List au→uD→Option (aC×uD)} {q:List au→Pr aC} (k:∀ l,l.length≤c→pX (g l) (q l)):pX (λr=>(oO zz zz (⟨[],0⟩,[]) ((c:Int),r,[])).bind λy=>g y.2 y.1) (bH (eH uz c) q):=by
 have h0:∀ (k:Nat) b e acc,(k=0∨e≠0)→gN zz zz (⟨[],0⟩,[]) ((k:Int),⟨b,e⟩,acc)=some (.inr (⟨b,e⟩,acc)):=λk b e acc h=>by
  unfold gN oM
  simp only
  by_cases hk:k=0
  ·rw [aT (by omega)];rfl
  ·rw [bf (by omega),uV (h.resolve_left hk)];rfl
 refine pX.loop c Vn P6 (λb e he=>?_) (λb hb=>?_) k
 ·unfold oO
  have:KK=(KK - 1)+1:=by have:=kr;omega
  rw [this]
  simp only [bQ,h0 c b e [] (.inr he)]
 ·have:=ah2 (p:=uz) (gN zz zz (⟨[],0⟩,[])) Vn P6 h0 (λk b acc hb hk ha=>by
   have hp:=(awk b 0 hb).2
   have e:gN zz zz (⟨[],0⟩,[]) (((k+1:Nat):Int),⟨b,0⟩,acc)=(se0 ⟨b,0⟩).bind λy=>some (.inl ((k:Int),y.2,acc++[y.1])):=by
    unfold gN oM se0 se1 se2
    simp only
    rw [bf (by omega),xS rfl]
    simp only [cond_true,Option.bind_some,jO,Option.bind_assoc]
    congr 1;funext x;congr 1;funext y;congr 1;funext z
    rw [jH (by unfold dx;simp;omega),bM (by omega) (by omega),show ((k+1:Nat):Int) - 1=(k:Int) by omega]
   rw [e]
   cases hq:uz b with
   | inl er =>
    rw [hq] at hp
    obtain ⟨x,s,hx,hs⟩:=hp
    exact ⟨x,s,by rw [hx];rfl,hs⟩
   | inr y =>
    rw [hq] at hp
    simp only at hp ⊢
    rw [hp]
    rfl) c KK b [] (by have:=kr;omega) hb (by simp;omega)
  cases hq:eH uz c b with
  | inl er =>
   rw [hq] at this
   obtain ⟨l,s,h1,h2,h3⟩:=this
   exact ⟨l,s,h1,by simpa using h2,h3⟩
  | inr y =>
   rw [hq] at this
   simp only [List.nil_append] at this
   exact this
theorem awm (a b:Int) (ps:List av) (hps:ps.length≤8) (d:Nat) (hd:d≤4):pX (im4 a b ps (d:Int)) (bH (eH uz d) λss=>Ag kH ⟨a,b,ps,ss⟩) :=
 axY (g:=λl r=>im5 ⟨a,b,ps,l⟩ r) d hd λl hl=>awl ⟨a,b,ps,l⟩ hps (by simp only;omega)
theorem awn (a b:Int) (ps:List av) (hps:ps.length≤8):pX (im3 a b ps) (bH (qh 4) λd=>bH (eH uz d.toNat) λss=>Ag kH ⟨a,b,ps,ss⟩) :=
 pX.cnt (g:=λn r=>im4 a b ps n r) (q:=λd=>bH (eH uz d.toNat) λss=>Ag kH ⟨a,b,ps,ss⟩) 4 λn hn=>by
  simp only [Int.toNat_natCast]
  exact awm a b ps hps n hn
theorem awo (a b:Int) (c:Nat) (hc:c≤8):pX (im2 a b (c:Int)) (bH (eH xY c) λps=>bH (qh 4) λd=>bH (eH uz d.toNat) λss=>Ag kH ⟨a,b,ps,ss⟩) :=
 axX a b (g:=λl r=>im3 a b l r) c hc λl hl=>awn a b l (by omega)
theorem awp (a b:Int):pX (im1 a b) (bH (qh 8) λc=>bH (eH xY c.toNat) λps=>bH (qh 4) λd=>bH (eH uz d.toNat) λss=>Ag kH ⟨a,b,ps,ss⟩) :=
 pX.cnt (g:=λn r=>im2 a b n r) (q:=λc=>bH (eH xY c.toNat) λps=>bH (qh 4) λd=>bH (eH uz d.toNat) λss=>Ag kH ⟨a,b,ps,ss⟩) 8 λn hn=>by
  simp only [Int.toNat_natCast]
  exact awo a b n hn
theorem awq (a:Int):pX (im0 a) (bH fO λb=>bH (qh 8) λc=>bH (eH xY c.toNat) λps=>bH (qh 4) λd=>bH (eH uz d.toNat) λss=>Ag kH ⟨a,b,ps,ss⟩) :=
 pX.seq (g:=λx r=>im1 a x r) qj fJ f_ λb=>awp a b
theorem awr:pX qw PY:=by
 have e:PY=bH fO λa=>bH fO λb=>bH (qh 8) λc=>bH (eH xY c.toNat) λps=>bH (qh 4) λd=>bH (eH uz d.toNat) λss=>Ag kH ⟨a,b,ps,ss⟩:=by
  unfold PY
  rw [show eH fO 2=bH fO λx=>bH (bH fO λy=>bH (λb=>.inr ([],b)) λl b=>.inr (y::l,b)) λl b=>.inr (x::l,b) from rfl]
  simp only [Ms,Vr]
  rfl
 rw [e,axW]
 exact pX.seq (g:=λx r=>im0 x r) qj fJ f_ λa=>awq a
end Go.Proofs.YtohoggieaanllaaGreat
