import Derived.Test.YtohoggieaanllaaGreatKf
set_option linter.all false
set_option linter.unusedSimpArgs false
namespace Go.Proofs.YtohoggieaanllaaGreat
abbrev T9:=aC
def Mdx {α:Type} (P:α→Prop) (f:T9→Option (α×T9)) (p:Pr α):Prop:=∀ b e,b.length < 500000000→(e≠0→∃ x,P x∧f ⟨b,e⟩=some (x,⟨b,e⟩))∧(match p b with
 | .inl er=>∃ x s,P x∧f ⟨b,0⟩=some (x,⟨s,er⟩)∧s.length≤b.length
 | .inr (x,s)=>P x∧f ⟨b,0⟩=some (x,⟨s,0⟩))
theorem Mdx.seq {α β:Type} {P:α→Prop} {Q:β→Prop} {f:T9→Option (α×T9)} {p:Pr α} {g:α→T9→Option (β×T9)} {q:α→Pr β} (h:Mdx P f p) (he:Err p) (hs:Shr p) (k:∀ x,P x→Mdx Q (g x) (q x)):Mdx Q (λr=>(f r).bind λy=>g y.1 y.2) (qE p q):=by
 intro b e hb
 obtain ⟨h1,h2⟩:=h b e hb
 refine ⟨λhee=>?_, ?_⟩
 ·obtain ⟨x,px,hx⟩:=h1 hee
  simp only [hx,Option.bind_some]
  exact (k x px b e hb).1 hee
 ·unfold qE
  cases hp:p b with
  | inl er =>
   rw [hp] at h2
   obtain ⟨x,s,px,hx,hl⟩:=h2
   have hne:er≠0:=by rcases he _ _ hp with rfl | rfl<;>omega
   obtain ⟨y,py,hy⟩:=(k x px s er (by omega)).1 hne
   refine ⟨y,s,py, ?_,hl⟩
   simp only [hx,Option.bind_some]
   exact hy
  | inr y =>
   obtain ⟨x,s⟩:=y
   rw [hp] at h2
   obtain ⟨px,h2⟩:=h2
   have hl:=hs _ _ _ hp
   have h3:=(k x px s 0 (by omega)).2
   simp only [h2,Option.bind_some]
   cases hq:q x s with
   | inl er =>
    rw [hq] at h3
    obtain ⟨z,t,pz,hz,ht⟩:=h3
    exact ⟨z,t,pz,hz,by omega⟩
   | inr z =>
    rw [hq] at h3
    exact h3
theorem Mdx.ret {α:Type} (x:α):Mdx (λ_=>True) (λr=>some (x,r)) (λb=>.inr (x,b)):=λb e _=>⟨λ_=>⟨x,trivial,rfl⟩,trivial,rfl⟩
def aoC (r:T9):Option (aX×T9):=cond (r.e==0) ((yX r.b).bind λx=>some (x.1,⟨x.2.1,x.2.2⟩)) (some (Wd,r))
def aoD (r:T9):Option (aA×T9):=cond (r.e==0) ((nR r.b).bind λx=>some (x.1,⟨x.2.1,x.2.2⟩)) (some (anj,r))
def aoE (k:Int) (Nz:Int×aC×List av):Option ((Int×aC×List av)⊕((aC×List av))) :=
 cond (decide (Nz.1 < k)) ((sP Nz.2.1).bind λ(x23:av×aC)=>gd (dB 40 (Nz.2.2++[x23.1]).length) (some (.inl ((IntKind.i64.wrap (Nz.1+1)),x23.2,(Nz.2.2++[x23.1]))))) (some (.inr (Nz.2.1,Nz.2.2)))
def aoF (k:Int) (r:T9):Option (List av×T9):=(eG (aoE k) KK (0,r,[])).bind λz=>some (z.2,z.1)
def m8 (n:List Int) (d:Bool) (q:aX) (a:aA) (p:List Int) (t:List av) (r:T9):Option (aO×T9) :=
 cond (r.e==0) ((pK r.b).bind λsU=>some (mkM n d q a p t sU.1,⟨sU.2.1,sU.2.2⟩)) (some (mkM n d q a p t anl,r))
def m7 (n:List Int) (d:Bool) (q:aX) (a:aA) (p:List Int) (k:Int) (r:T9):=(aoF k r).bind λy=>m8 n d q a p y.1 y.2
def m6 (n:List Int) (d:Bool) (q:aX) (a:aA) (p:List Int) (r:T9):=(fZ 5 r).bind λy=>m7 n d q a p y.1 y.2
def m5 (n:List Int) (d:Bool) (q:aX) (a:aA) (c:Int) (r:T9):=(gX c r).bind λy=>m6 n d q a y.1 y.2
def m4 (n:List Int) (d:Bool) (q:aX) (a:aA) (r:T9):=(fZ 5 r).bind λy=>m5 n d q a y.1 y.2
def m3 (n:List Int) (d:Bool) (q:aX) (r:T9):=(aoD r).bind λy=>m4 n d q y.1 y.2
def m2 (n:List Int) (d:Bool) (r:T9):=(aoC r).bind λy=>m3 n d y.1 y.2
def m1 (n:List Int) (r:T9):=(fZ 1 r).bind λy=>m2 n (y.1==1) y.2
def m0 (l:List Int) (r:T9):Option (aO×T9):=(bW l 0).bind λ(x2:Int)=>(bW l 1).bind λ(x3:Int)=>(bW l 2).bind λ(x4:Int)=>(bW l 3).bind λ(x5:Int)=>(bW l 4).bind λ(x6:Int)=>(bW l 5).bind λ(x7:Int)=>(bW l 6).bind λ(x8:Int)=>(bW l 7).bind λ(x9:Int)=>(fZ 1 r).bind λ(x10:Int×aC)=>(lN x10 x2 x3 x4 x5 x6 x7 x8 x9).bind λ(dI:(aC×Int×Int×Int×List UInt8×List UInt8×List UInt8))=>(lQ dI x2 x3 x4 x5 x6 x7 x8 x9 x10).bind λ(kR:(aC×Int×List UInt8))=>(fZ 5 kR.1).bind λ(bR:Int×aC)=>(gX bR.1 bR.2).bind λ(xQ:List Int×aC)=>(fZ 5 xQ.2).bind λ(ny:Int×aC)=>(qg ny x2 x3 x4 x5 x6 x7 x8 x9 x10 dI kR xQ (0,ny.2,[])).bind λ(x25:(aC×List av))=>cond (x25.1.e==0) ((pK x25.1.b).bind λ(sU:aD×List UInt8×Int)=>some ((⟨x2,x3,x4,x5,x6,x7,x8,x9,(x10.1==1),(⟨dI.2.1,dI.2.2.1,(⟨dI.2.2.2.1,dI.2.2.2.2.1,dI.2.2.2.2.2.1,dI.2.2.2.2.2.2⟩:aY)⟩:aX),(⟨kR.2.1,kR.2.2⟩:aA),xQ.1,x25.2,sU.1⟩:aO),(⟨sU.2.1,sU.2.2⟩:aC))) (some ((⟨x2,x3,x4,x5,x6,x7,x8,x9,(x10.1==1),(⟨dI.2.1,dI.2.2.1,(⟨dI.2.2.2.1,dI.2.2.2.2.1,dI.2.2.2.2.2.1,dI.2.2.2.2.2.2⟩:aY)⟩:aX),(⟨kR.2.1,kR.2.2⟩:aA),xQ.1,x25.2,(⟨0,0,[],[]⟩:aD)⟩:aO),x25.1))
end Go.Proofs.YtohoggieaanllaaGreat
