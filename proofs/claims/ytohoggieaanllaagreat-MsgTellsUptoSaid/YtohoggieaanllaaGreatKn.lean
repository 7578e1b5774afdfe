import Derived.Test.YtohoggieaanllaaGreatKm
set_option linter.all false
set_option linter.unusedSimpArgs false
set_option maxRecDepth 100000
namespace Go.Proofs.YtohoggieaanllaaGreat
abbrev zR:uD:=⟨[],0⟩
def en4 (a b c d:Int) (r:uD):Option (aA×uD):=(eu ((1:Nat):Int) r).bind λy=>some (⟨a,b,c,d,y.1==1⟩,y.2)
def en3 (a b c:Int) (r:uD):=(bB r).bind λy=>en4 a b c y.1 y.2
def en2 (a b:Int) (r:uD):=(bB r).bind λy=>en3 a b y.1 y.2
def en1 (a:Int) (r:uD):=(bB r).bind λy=>en2 a y.1 y.2
def en0 (r:uD):=(bB r).bind λy=>en1 y.1 y.2
theorem awt (a b c d:Int):pX (en4 a b c d) (bH (qh ((1:Nat):Int)) λk s=>.inr ((⟨a,b,c,d,k==1⟩:aA),s)) :=
 pX.cnt (g:=λk r=>some ((⟨a,b,c,d,k==1⟩:aA),r)) (q:=λk s=>.inr ((⟨a,b,c,d,k==1⟩:aA),s)) 1 λn _=>pX.ret _
theorem awu:pX en0 C_:=by
 have e:C_=bH fO λa=>bH fO λb=>bH fO λc=>bH fO λd=>bH (qh ((1:Nat):Int)) λk s=>.inr ((⟨a,b,c,d,k==1⟩:aA),s):=by
  rw [aqA]
  rw [show eH fO 4=bH fO λx=>bH (bH fO λy=>bH (bH fO λz=>bH (bH fO λw=>bH (λb=>.inr ([],b)) λl b=>.inr (w::l,b)) λl b=>.inr (z::l,b)) λl b=>.inr (y::l,b)) λl b=>.inr (x::l,b) from rfl]
  simp only [Hq,P7]
  rfl
 rw [e]
 refine pX.seq (g:=λx r=>en1 x r) qj fJ f_ λa=>?_
 refine pX.seq (g:=λx r=>en2 a x r) qj fJ f_ λb=>?_
 refine pX.seq (g:=λx r=>en3 a b x r) qj fJ f_ λc=>?_
 exact pX.seq (g:=λx r=>en4 a b c x r) qj fJ f_ λd=>awt a b c d
abbrev zx:Int×uD:=(0,zR)
abbrev zL1:=Dp zx zx zx zx zx zx zx zx (false,zR) (Ct,zR) (Vl,zR)
abbrev aqJ:=mQ zx zx zx zx zx zx zx zx (false,zR) (Ct,zR) (Vl,zR)
abbrev zL3:=Dq zx zx zx zx zx zx zx zx (false,zR) (Ct,zR) (Vl,zR) (zR,[])
abbrev aqK:=mR zx zx zx zx zx zx zx zx (false,zR) (Ct,zR) (Vl,zR) (zR,[])
theorem axZ {β:Type} (c:Nat) (hc:c≤5) {g:List Int→uD→Option (β×uD)} {q:List Int→Pr β} (k:∀ l,l.length≤c→pX (g l) (q l)):pX (λr=>(zL1 ((c:Int),r,[])).bind λy=>g y.2 y.1) (bH (eH fO c) q):=by
 have h0:∀ (k:Nat) b e acc,(k=0∨e≠0)→aqJ ((k:Int),⟨b,e⟩,acc)=some (.inr (⟨b,e⟩,acc)):=λk b e acc h=>by
  unfold aqJ mQ yV
  simp only
  by_cases hk:k=0
  ·rw [aT (by omega)];rfl
  ·rw [bf (by omega),uV (h.resolve_left hk)];rfl
 refine pX.loop c f_ fJ (λb e he=>?_) (λb hb=>?_) k
 ·unfold zL1 Dp
  have:KK=(KK - 1)+1:=by have:=kr;omega
  rw [this]
  simp only [bQ,h0 c b e [] (.inr he)]
 ·have:=ah2 (p:=fO) aqJ f_ fJ h0 (λk b acc hb hk ha=>by
   have hp:=(qj b 0 hb).2
   have e:aqJ (((k+1:Nat):Int),⟨b,0⟩,acc)=(bB ⟨b,0⟩).bind λy=>some (.inl ((k:Int),y.2,acc++[y.1])):=by
    unfold aqJ mQ yV
    simp only
    rw [bf (by omega),xS rfl]
    simp only [cond_true,Option.bind_some,jO]
    congr 1;funext y
    rw [jH (by unfold dx;simp;omega),bM (by omega) (by omega),show ((k+1:Nat):Int) - 1=(k:Int) by omega]
   rw [e]
   cases hq:fO b with
   | inl er =>
    rw [hq] at hp
    obtain ⟨x,s,hx,hs⟩:=hp
    exact ⟨x,s,by rw [hx];rfl,hs⟩
   | inr y =>
    rw [hq] at hp
    simp only at hp ⊢
    rw [hp]
    rfl) c KK b [] (by have:=kr;omega) hb (by simp;omega)
  cases hq:eH fO c b with
  | inl er =>
   rw [hq] at this
   obtain ⟨l,s,h1,h2,h3⟩:=this
   exact ⟨l,s,h1,by simpa using h2,h3⟩
  | inr y =>
   rw [hq] at this
   simp only [List.nil_append] at this
   exact this
theorem ax0 {β:Type} (c:Nat) (hc:c≤5) {g:List aA→uD→Option (β×uD)} {q:List aA→Pr β} (k:∀ l,l.length≤c→pX (g l) (q l)):pX (λr=>(zL3 ((c:Int),r,[])).bind λy=>g y.2 y.1) (bH (eH C_ c) q):=by
 have h0:∀ (k:Nat) b e acc,(k=0∨e≠0)→aqK ((k:Int),⟨b,e⟩,acc)=some (.inr (⟨b,e⟩,acc)):=λk b e acc h=>by
  unfold aqK mR yX
  simp only
  by_cases hk:k=0
  ·rw [aT (by omega)];rfl
  ·rw [bf (by omega),uV (h.resolve_left hk)];rfl
 refine pX.loop c Zl Vq (λb e he=>?_) (λb hb=>?_) k
 ·unfold zL3 Dq
  have:KK=(KK - 1)+1:=by have:=kr;omega
  rw [this]
  simp only [bQ,h0 c b e [] (.inr he)]
 ·have:=ah2 (p:=C_) aqK Zl Vq h0 (λk b acc hb hk ha=>by
   have hp:=(awu b 0 hb).2
   have e:aqK (((k+1:Nat):Int),⟨b,0⟩,acc)=(en0 ⟨b,0⟩).bind λy=>some (.inl ((k:Int),y.2,acc++[y.1])):=by
    unfold aqK mR yX en0 en1 en2 en3 en4
    simp only
    rw [bf (by omega),xS rfl]
    simp only [cond_true,Option.bind_some,jO,Option.bind_assoc,r9]
    congr 1;funext x;congr 1;funext y;congr 1;funext z;congr 1;funext w
    rw [show ((1:Nat):Int)=1 from rfl]
    congr 1;funext v
    rw [jH (by unfold dx;simp;omega),bM (by omega) (by omega),show ((k+1:Nat):Int) - 1=(k:Int) by omega]
   rw [e]
   cases hq:C_ b with
   | inl er =>
    rw [hq] at hp
    obtain ⟨x,s,hx,hs⟩:=hp
    exact ⟨x,s,by rw [hx];rfl,hs⟩
   | inr y =>
    rw [hq] at hp
    simp only at hp ⊢
    rw [hp]
    rfl) c KK b [] (by have:=kr;omega) hb (by simp;omega)
  cases hq:eH C_ c b with
  | inl er =>
   rw [hq] at this
   obtain ⟨l,s,h1,h2,h3⟩:=this
   exact ⟨l,s,h1,by simpa using h2,h3⟩
  | inr y =>
   rw [hq] at this
   simp only [List.nil_append] at this
   exact this
def rg9 (n:List Int) (d:Bool) (q:aU) (a:aB) (p:List Int) (t:List aA) (r:uD):Option (aM×uD):=(qw r).bind λy=>some (mkM n d q a p t y.1,y.2)
def rg8 (n:List Int) (d:Bool) (q:aU) (a:aB) (p:List Int) (c:Int) (r:uD):=(zL3 (c,r,[])).bind λy=>rg9 n d q a p y.2 y.1
def rg7 (n:List Int) (d:Bool) (q:aU) (a:aB) (p:List Int) (r:uD):=(eu ((5:Nat):Int) r).bind λy=>rg8 n d q a p y.1 y.2
def rg6 (n:List Int) (d:Bool) (q:aU) (a:aB) (c:Int) (r:uD):=(zL1 (c,r,[])).bind λy=>rg7 n d q a y.2 y.1
def rg5 (n:List Int) (d:Bool) (q:aU) (a:aB) (r:uD):=(eu ((5:Nat):Int) r).bind λy=>rg6 n d q a y.1 y.2
def rg4 (n:List Int) (d:Bool) (q:aU) (r:uD):=(jU r).bind λy=>rg5 n d q y.1 y.2
def rg3 (n:List Int) (d:Bool) (r:uD):=(uI r).bind λy=>rg4 n d y.1 y.2
def rg1 (n:List Int) (r:uD):=(eu ((1:Nat):Int) r).bind λy=>rg3 n (y.1==1) y.2
def rh7 (a b c d e f g:Int) (r:uD):=(bB r).bind λy=>rg1 [a,b,c,d,e,f,g,y.1] y.2
def rh6 (a b c d e f:Int) (r:uD):=(bB r).bind λy=>rh7 a b c d e f y.1 y.2
def rh5 (a b c d e:Int) (r:uD):=(bB r).bind λy=>rh6 a b c d e y.1 y.2
def rh4 (a b c d:Int) (r:uD):=(bB r).bind λy=>rh5 a b c d y.1 y.2
def rh3 (a b c:Int) (r:uD):=(bB r).bind λy=>rh4 a b c y.1 y.2
def rh2 (a b:Int) (r:uD):=(bB r).bind λy=>rh3 a b y.1 y.2
def rh1 (a:Int) (r:uD):=(bB r).bind λy=>rh2 a y.1 y.2
def rh0 (r:uD):=(bB r).bind λy=>rh1 y.1 y.2
def mg1 (n:List Int):Pr aM:=bH (qh ((1:Nat):Int)) λk=>bH Vk λq=>bH PX λa=>bH (qh ((5:Nat):Int)) λc=>bH (eH fO c.toNat) λp=>bH (qh ((5:Nat):Int)) λk2=>bH (eH C_ k2.toNat) λt=>bH PY λx b=>.inr (mkM n (k==1) q a p t x,b)
theorem awv (n:List Int):pX (rg1 n) (mg1 n):=by
 refine pX.cnt (g:=λk r=>rg3 n (k==1) r) (q:=λk=>bH Vk λq=>bH PX λa=>bH (qh ((5:Nat):Int)) λc=>bH (eH fO c.toNat) λp=>bH (qh ((5:Nat):Int)) λk2=>bH (eH C_ k2.toNat) λt=>bH PY λx b=>.inr (mkM n (k==1) q a p t x,b)) 1 λk _=>?_
 refine pX.seq (g:=λq r=>rg4 n ((k:Int)==1) q r) awc aft akN λq=>?_
 refine pX.seq (g:=λa r=>rg5 n ((k:Int)==1) q a r) aqH Vm Zj λa=>?_
 refine pX.cnt (g:=λc r=>rg6 n ((k:Int)==1) q a c r) (q:=λc=>bH (eH fO c.toNat) λp=>bH (qh ((5:Nat):Int)) λk2=>bH (eH C_ k2.toNat) λt=>bH PY λx b=>.inr (mkM n ((k:Int)==1) q a p t x,b)) 5 λc hc=>?_
 simp only [Int.toNat_natCast]
 refine axZ c hc (g:=λp r=>rg7 n ((k:Int)==1) q a p r) λp hp=>?_
 refine pX.cnt (g:=λc r=>rg8 n ((k:Int)==1) q a p c r) (q:=λk2=>bH (eH C_ k2.toNat) λt=>bH PY λx b=>.inr (mkM n ((k:Int)==1) q a p t x,b)) 5 λk2 hk=>?_
 simp only [Int.toNat_natCast]
 refine ax0 k2 hk (g:=λt r=>rg9 n ((k:Int)==1) q a p t r) λt ht=>?_
 exact pX.seq (g:=λx r=>some (mkM n ((k:Int)==1) q a p t x,r)) (q:=λx b=>.inr (mkM n ((k:Int)==1) q a p t x,b)) awr akO aus λx=>pX.ret _
theorem aww:pX rh0 Vo:=by
 have e:Vo=bH fO λa=>bH fO λb=>bH fO λc=>bH fO λd=>bH fO λe=>bH fO λf=>bH fO λg=>bH fO λh=>mg1 [a,b,c,d,e,f,g,h]:=by
  unfold Vo aj3 mg1
  rw [show eH fO 8=bH fO λx=>bH (bH fO λy=>bH (bH fO λz=>bH (bH fO λw=>bH (bH fO λx2=>bH (bH fO λy2=>bH (bH fO λz2=>bH (bH fO λw2=>bH (λb=>.inr ([],b)) λl b=>.inr (w2::l,b)) λl b=>.inr (z2::l,b)) λl b=>.inr (y2::l,b)) λl b=>.inr (x2::l,b)) λl b=>.inr (w::l,b)) λl b=>.inr (z::l,b)) λl b=>.inr (y::l,b)) λl b=>.inr (x::l,b) from rfl]
  simp only [Hq,P7]
  rfl
 rw [e]
 refine pX.seq (g:=λx r=>rh1 x r) qj fJ f_ λa=>?_
 refine pX.seq (g:=λx r=>rh2 a x r) qj fJ f_ λb=>?_
 refine pX.seq (g:=λx r=>rh3 a b x r) qj fJ f_ λc=>?_
 refine pX.seq (g:=λx r=>rh4 a b c x r) qj fJ f_ λd=>?_
 refine pX.seq (g:=λx r=>rh5 a b c d x r) qj fJ f_ λe=>?_
 refine pX.seq (g:=λx r=>rh6 a b c d e x r) qj fJ f_ λf=>?_
 refine pX.seq (g:=λx r=>rh7 a b c d e f x r) qj fJ f_ λg=>?_
 exact pX.seq (g:=λx r=>rg1 [a,b,c,d,e,f,g,x] r) qj fJ f_ λh=>awv _
def rend (y:aM×uD):Option (aM×Int) :=
 ((cond (y.2.E==0) (cond (decide ((y.2.B.length:Int) > 0)) (some true) ((qJ y.1).bind λx=>some (!x))) (some false)).bind λx48=>cond x48 (some (⟨y.2.B,2⟩:uD)) (some y.2)).bind λx49=>cond (x49.E != 0) (some (akS,x49.E)) (some (y.1,0))
theorem aqL (b:List UInt8):CW b=(rh0 ⟨b,0⟩).bind rend:=by
 unfold rh0 rh1 rh2 rh3 rh4 rh5 rh6 rh7 rg1 rg3 rg4 rg5 rg6 rg7 rg8 rg9
 simp only [Option.bind_assoc,Option.bind_some]
 unfold CW r9
 simp only [Option.bind_assoc,Option.bind_some]
 rfl
theorem ami (b:List UInt8) (hb:b.length < 500000000):CW b=some (XZ b):=by
 rw [aqL]
 unfold XZ
 have h:=(aww b 0 hb).2
 cases hp:Vo b with
 | inl er =>
  have he:er≠0:=by rcases akT _ _ hp with rfl | rfl<;>omega
  rw [hp] at h
  obtain ⟨x,s,h,_⟩:=h
  rw [h,Option.bind_some]
  unfold rend
  simp only
  rw [uV he]
  simp only [cond_false,Option.bind_some]
  rw [mD he]
  rfl
 | inr y =>
  obtain ⟨x,s⟩:=y
  rw [hp] at h
  simp only at h
  rw [h,Option.bind_some]
  unfold rend
  simp only
  rw [xS rfl,Tf x (abA _ _ _ hp)]
  simp only [cond_true,Option.bind_some]
  by_cases c:s.length=0
  ·rw [aT (by omega),cond_false]
   cases hc:sD x
   ·rw [if_neg (by simp)];rfl
   ·rw [if_pos ⟨c,rfl⟩];rfl
  ·rw [bf (by omega),if_neg (by rintro ⟨p,_⟩;exact c p)]
   rfl
end Go.Proofs.YtohoggieaanllaaGreat
