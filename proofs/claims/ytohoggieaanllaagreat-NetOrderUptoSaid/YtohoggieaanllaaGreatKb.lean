import Derived.Test.YtohoggieaanllaaGreatN2
import Derived.Test.YtohoggieaanllaaGreatK5
set_option linter.all false
set_option linter.unusedSimpArgs false
namespace Go.Proofs.YtohoggieaanllaaGreat
theorem ahw (x:aA) (h1:x.Pairs.length < 1000000) (h2:x.dX.length < 1000000):∃ b,uZ x=some b∧sP x=some b:=by
 unfold uZ sP
 have j0:uY x=kG x:=rfl
 have jj:kG x=some (.inl ())∨kG x=some (.inr ()):=by
  unfold kG
  cases decide (x.eY < 0)<;>cases decide (x.eY≥6)<;>cases decide (x.Epoch < 1)<;>cases decide (x.Epoch > 1099511627776)<;>simp
 rw [j0]
 rcases jj with jj | jj<;>rw [jj,Option.bind_some]
 ·exact ⟨false,rfl,rfl⟩
 simp only [jI,cond_false,Option.bind_some]
 obtain ⟨s,e1,e2,e3,e4,e5,e6⟩:=aqo x (by omega) (by omega)
 have hT:=e2.1.2
 have hS:=Ll s.b_
 have j1:nH s x=some (decide (s.Table.l=x.Pairs∧iy s.b_=x.dX)):=by
  unfold nH pG
  rw [Ci (by omega),Option.bind_some,aqp _ _ (by omega),Option.bind_some,adl,Option.bind_some,equalS _ _ (by omega),Option.bind_some]
  by_cases a:s.Table.l=x.Pairs<;>by_cases b:iy s.b_=x.dX<;>simp [a,b]
 rw [e1,Option.bind_some,j1,Option.bind_some,Pn _ h2,e6]
 obtain ⟨p,p1,p2⟩:=Ls x.Pairs ajv h1 (jq x) (λ_=>()) (λi hi=>by
  unfold jq ajv
  rw [aZ (by omega),cond_true,dI hi]
  simp only [Option.bind_some]
  rw [bU (by omega) (by omega),cO]
  by_cases a:x.Pairs[i].Key.length < 1
  ·rw [aZ (by omega),aZ a];rfl
  rw [aV (by omega),aV a,cond_false]
  by_cases b:8 < x.Pairs[i].Key.length
  ·rw [aZ (by omega),aZ b];rfl
  rw [aV (by omega),aV b,cond_false]
  by_cases c:16 < x.Pairs[i].Value.length
  ·rw [aZ (by omega),aZ c];rfl
  rw [aV (by omega),aV c];rfl) (by
  unfold jq
  rw [aV (by omega),cond_false])
 obtain ⟨q,q1,q2⟩:=Ls x.dX (λy=>!Yc y) h2 (jr x) (λ_=>()) (λi hi=>by
  unfold jr wC Yc
  rw [aZ (by omega),cond_true,dI hi,Option.bind_some]
  simp only [ahb]
  rw [bU (by omega) (by omega),cO]
  by_cases e:x.dX[i].Answer.Value.length≤16<;>by_cases f:x.dX[i].Seq≤4611686018427387903 <;>
   by_cases a:x.dX[i].Answer.Why=0<;>by_cases b:x.dX[i].Answer.Why=4<;>by_cases c:x.dX[i].Answer.Why=5<;>by_cases d:x.dX[i].Answer.Why=6 <;>
   simp [a,b,c,d,e,f,show ((16:Int) < (x.dX[i].Answer.Value.length:Int))↔¬ x.dX[i].Answer.Value.length≤16 by omega,show (4611686018427387903 < x.dX[i].Seq)↔¬ x.dX[i].Seq≤4611686018427387903 by omega]) (by
  unfold jr
  rw [aV (by omega),cond_false])
 unfold BS BU
 rw [p1,Option.bind_some,q1]
 have fin:pF x ⟨s.ID,s.Epoch,s.Table.l,iy s.b_⟩=some (decide (s.Table.l=x.Pairs∧iy s.b_=x.dX)):=by
  rw [ave _ _ h1 h2]
  congr 1
  rw [decide_eq_decide]
  constructor
  ·rintro ⟨_,_,a,b⟩;exact ⟨a.symm,b.symm⟩
  ·rintro ⟨a,b⟩;exact ⟨e4.symm,e5.symm,a.symm,b.symm⟩
 rcases p2 with ⟨p2,_,rfl⟩ | ⟨p2,rfl⟩
 ·have:¬ (s.Table.l=x.Pairs∧iy s.b_=x.dX):=by
   rintro ⟨a,_⟩
   have ok:=aqn x.Pairs [] (λp hp=>by simp at hp)
   rw [← e3,a] at ok
   rw [List.any_eq_true] at p2
   obtain ⟨y,y1,y2⟩:=p2
   rw [ok y y1] at y2
   cases y2
  rw [aV this]
  exact ⟨false,rfl,rfl⟩
 simp only [jI,cond_false,Option.bind_some]
 rcases q2 with ⟨q2,_,rfl⟩ | ⟨q2,rfl⟩
 ·rw [q2]
  simp only [jI,cond_true,Bool.not_true]
  exact ⟨false,by cases decide (s.Table.l=x.Pairs∧iy s.b_=x.dX)<;>rfl,rfl⟩
 ·rw [q2]
  simp only [jI,cond_false,Bool.not_false]
  rw [aeQ _ (by simp only [vJ];omega) (by simp only [vJ];omega),Option.bind_some]
  show ∃ b,_=some b∧(pF x ⟨s.ID,s.Epoch,s.Table.l,iy s.b_⟩).bind _=some b
  rw [fin]
  exact ⟨decide (s.Table.l=x.Pairs∧iy s.b_=x.dX),by cases decide (s.Table.l=x.Pairs∧iy s.b_=x.dX)<;>rfl,rfl⟩
theorem al7 (x:aA) (h1:x.Pairs.length < 1000000) (h2:x.dX.length < 1000000):sP x=some (decide (Cj x)):=by
 obtain ⟨b,b1,b2⟩:=ahw x h1 h2
 rw [ahe x h1 h2] at b1
 rw [b2,b1]
theorem abZ (r:bn):BP r=some (decide (r=Iy)):=by
 unfold BP
 rw [show (r.Client==0&&(r.Seq==0&&(r.Op.Kind==0&&(r.Op.Key==([]:List UInt8)&&(r.Op.Value==([]:List UInt8)&&(r.Op.Old==([]:List UInt8)&&true))))))=decide (r=Iy) from aeR r Iy]
theorem ae0 (r:bn):qL r=some (vK r):=by
 unfold qL vK
 rw [abZ,Sn,Option.bind_some,Option.bind_some]
 cases decide (r=Iy)<;>rfl
theorem ae1 (a:aD):wz a=some (sF a):=Bg a
theorem Yg (x:aA):ED x=some (aaK x):=aaL x
theorem aaW (x:aA) (h1:x.Pairs.length < 1000000) (h2:x.dX.length < 1000000):uS x=some (qV x):=by
 unfold uS qV
 rw [Yg,al7 x h1 h2,Option.bind_some,Option.bind_some]
 cases aaK x<;>rfl
abbrev Rdr:=aJ
def Rdx {α:Type} (f:Rdr→Option (α×Rdr)) (p:Pr α):Prop:=∀ b e,b.length < 500000000→(e≠0→∃ x,f ⟨b,e⟩=some (x,⟨b,e⟩))∧(match p b with
 | .inl er=>∃ x s,f ⟨b,0⟩=some (x,⟨s,er⟩)∧s.length≤b.length
 | .inr (x,s)=>f ⟨b,0⟩=some (x,⟨s,0⟩))
theorem Rdx.seq {α β:Type} {f:Rdr→Option (α×Rdr)} {p:Pr α} {g:α→Rdr→Option (β×Rdr)} {q:α→Pr β} (h:Rdx f p) (he:Err p) (hs:Shr p) (k:∀ x,Rdx (g x) (q x)):Rdx (λr=>(f r).bind λy=>g y.1 y.2) (fP p q):=by
 intro b e hb
 obtain ⟨h1,h2⟩:=h b e hb
 refine ⟨λhee=>?_, ?_⟩
 ·obtain ⟨x,hx⟩:=h1 hee
  simp only [hx,Option.bind_some]
  exact (k x b e hb).1 hee
 ·unfold fP
  cases hp:p b with
  | inl er =>
   rw [hp] at h2
   obtain ⟨x,s,hx,hl⟩:=h2
   have hne:er≠0:=by rcases he _ _ hp with rfl | rfl<;>omega
   obtain ⟨y,hy⟩:=(k x s er (by omega)).1 hne
   refine ⟨y,s, ?_,hl⟩
   simp only [hx,Option.bind_some]
   exact hy
  | inr y =>
   obtain ⟨x,s⟩:=y
   rw [hp] at h2
   have hl:=hs _ _ _ hp
   have h3:=(k x s 0 (by omega)).2
   simp only at h2 ⊢
   simp only [h2,Option.bind_some]
   cases hq:q x s with
   | inl er =>
    rw [hq] at h3
    obtain ⟨z,t,hz,ht⟩:=h3
    exact ⟨z,t,hz,by omega⟩
   | inr z =>
    rw [hq] at h3
    exact h3
theorem Rdx.ret {α:Type} (x:α):Rdx (λr=>some (x,r)) (λb=>.inr (x,b)):=λb e _=>⟨λ_=>⟨x,rfl⟩,rfl⟩
end Go.Proofs.YtohoggieaanllaaGreat
