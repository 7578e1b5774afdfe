import Derived.Test.YtohoggieaanllaaGreatC3
import Derived.Test.YtohoggieaanllaaGreatY5
set_option linter.all false
set_option linter.unusedSimpArgs false
namespace Go.Proofs.YtohoggieaanllaaGreat
def gk (k:Int) (x:ak):Prop:=x.Seq=0∨(0 < x.Seq∧x.Client=k)
def GoodS (s:aQ):Prop:=gk 0 s.l.a0∧gk 1 s.l.a1∧gk 2 s.l.a2∧gk 3 s.l.a3
def iX (s:aQ):List ak:=s.l.Lb.filter (λx=>decide (0 < x.Seq))
def Jz:ak:=⟨0,0,⟨0,[]⟩⟩
def lastOf (c:Int) (L:List ak):ak×Bool:=match L.find? (λy=>y.Client==c) with
 | some y=>(y,true)
 | none=>(Jz,false)
def tq (x:ak) (p:Bool×List ak) (y:ak):Bool×List ak :=
 let q:=bif !p.1&&decide (y.Client≥x.Client) then (true,p.2++[x]) else p
 bif y.Client != x.Client then (q.1,q.2++[y]) else q
def TJ (x:ak) (L:List ak):List ak :=
 let p:=L.foldl (tq x) (false,[])
 bif !p.1 then p.2++[x] else p.2
def GJ (x:ak) (L:List ak):Bool×List ak :=
 if x.Client < 0∨4≤x.Client∨x.Seq < 1∨x.Seq≤(lastOf x.Client L).1.Seq then (false,L) else (true,TJ x L)
theorem V7 (c:Int) (L:List ak) (h:L.length < 1000000):∀ f:Int→Option (Int⊕(ak⊕Unit)),
  (∀ s,f s=cond (decide (s < (L.length:Int))) ((bW L s).bind λ(x4:ak)=>cond (x4.Client==c) ((bW L s).bind λ(x5:ak)=>some (.inr (.inl x5))) (some (.inl (IntKind.i64.wrap (s+1))))) (some (.inr (.inr ())))) →
  eG f KK 0=some (match L.find? (λy=>y.Client==c) with | some y=>.inl y | none=>.inr ()):=by
 intro f hf
 have key:∃ e,eG f KK ((0:Nat):Int)=some e∧e=(match L.find? (λy=>y.Client==c) with | some y=>.inl y | none=>.inr ()):=by
  refine pO (λs=>L.length - s.toNat) (λs=>∃ i:Nat,s=(i:Int)∧i≤L.length∧L.find? (λy=>y.Client==c)=(L.drop i).find? (λy=>y.Client==c)) _ ?_ KK _ ⟨0,rfl,by omega,rfl⟩ (by have:=FI;omega)
  rintro s ⟨i,rfl,h1,h2⟩
  rw [hf]
  by_cases hi:i < L.length
  ·rw [bI (by omega),cond_true,fA hi,Option.bind_some,Option.bind_some]
   rw [List.drop_eq_getElem_cons hi,List.find?_cons] at h2
   cases e:(L[i].Client==c)
   ·left
    rw [cond_false,fG (by omega) (by omega),fE]
    rw [e] at h2
    exact ⟨_,rfl,⟨i+1,rfl,by omega,h2⟩,by omega⟩
   ·right
    rw [e] at h2
    rw [cond_true,h2]
    exact ⟨_,rfl,rfl⟩
  ·right
   rw [aZ (by omega),cond_false,h2,List.drop_of_length_le (by omega)]
   exact ⟨_,rfl,rfl⟩
 obtain ⟨e,e1,rfl⟩:=key
 exact e1
theorem P6 (c:Int) (L:List ak) (h:L.length < 1000000):kV c L=some (lastOf c L):=by
 unfold kV pU lastOf
 rw [V7 c L h (iK L c) (λ_=>rfl),Option.bind_some]
 cases L.find? (λy=>y.Client==c)<;>rfl
theorem V8 (x:ak) (L:List ak):∀ p:Bool×List ak,(L.foldl (tq x) p).2.length≤p.2.length+2 * L.length:=by
 induction L with
 | nil=>intro p;simp
 | cons y L ih =>
  intro p
  refine Nat.le_trans (ih _) ?_
  have:(tq x p y).2.length≤p.2.length+2:=by
   unfold tq
   cases (!p.1&&decide (y.Client≥x.Client))<;>cases (y.Client != x.Client)<;>simp
  simp only [List.length_cons]
  omega
theorem yI {β:Type} {n:Nat} {x:Option β} (h:n < 1000000):gd (dB 40 n) x=x:=by
 refine uI ?_
 unfold dB
 simp
 omega
theorem TK (x:ak) (L:List ak) (h:L.length < 1000):jk L x (false,0,[])=some (L.foldl (tq x) (false,[])):=by
 have e0:((false,0,[]):Bool×Int×List ak)=(((L.take 0).foldl (tq x) (false,[])).1,((0:Nat):Int),((L.take 0).foldl (tq x) (false,[])).2):=by simp
 unfold jk
 rw [e0]
 refine qM (λi=>(((L.take i).foldl (tq x) (false,[])).1,(i:Int),((L.take i).foldl (tq x) (false,[])).2)) L.length _ (λi hi=>?_) ?_ (by omega)
 ·have h5:(L.take (i+1)).foldl (tq x) (false,[])=tq x ((L.take i).foldl (tq x) (false,[])) L[i]:=by
   rw [List.take_succ_eq_append_getElem hi,List.foldl_append]
   rfl
  have h6:=V8 x (L.take i) (false,[])
  have h7:(L.take i).length≤1000:=by rw [List.length_take];omega
  rw [h5]
  generalize (L.take i).foldl (tq x) (false,[])=p at *
  obtain ⟨b,o⟩:=p
  have h8:o.length < 10000:=by simp at h6;omega
  have h9:∀ (l:List ak),o.length≤l.length→l.length≤o.length+2→l.length < 1000000:=λl _ _=>by omega
  unfold gU
  simp only
  rw [bI (by omega),cond_true]
  unfold lG lF
  simp only
  rw [fA hi]
  simp only [Option.bind_some]
  unfold tq
  simp only
  rw [fG (x:=(i:Int)+1) (by omega) (by omega),fE]
  cases b
  ·simp only [Bool.not_false,cond_true,Option.bind_some,Bool.true_and]
   cases (decide (L[i].Client≥x.Client))<;>simp only [cond_true,cond_false,Option.bind_some]
   ·cases (L[i].Client != x.Client)<;>simp only [cond_true,cond_false]
    rw [yI (by simp;omega)]
   ·rw [yI (by simp;omega),Option.bind_some]
    cases (L[i].Client != x.Client)<;>simp only [cond_true,cond_false]
    rw [yI (by simp;omega)]
  ·simp only [Bool.not_true,cond_false,Option.bind_some,Bool.false_and]
   cases (L[i].Client != x.Client)<;>simp only [cond_true,cond_false]
   rw [yI (by simp;omega)]
 ·unfold gU
  simp only
  rw [aZ (by omega),cond_false,List.take_length]
theorem P7 (x:ak) (L:List ak) (h:L.length < 1000):iJ x L=some (GJ x L):=by
 unfold iJ
 rw [P6 _ _ (by omega),Option.bind_some]
 unfold GJ iB
 by_cases h1:x.Client < 0
 ·rw [bI h1,if_pos (.inl h1)];rfl
 rw [aZ h1,cond_false]
 by_cases h2:x.Client≥4
 ·rw [bI h2,if_pos (.inr (.inl h2))];rfl
 rw [aZ h2,cond_false]
 by_cases h3:x.Seq < 1
 ·rw [bI h3,if_pos (.inr (.inr (.inl h3)))];rfl
 rw [aZ h3,cond_false]
 by_cases h4:x.Seq≤(lastOf x.Client L).1.Seq
 ·rw [bI h4,if_pos (.inr (.inr (.inr h4)))];rfl
 rw [aZ h4,cond_false,if_neg (by omega),Option.bind_some]
 simp only [mW,cond_false]
 rw [TK x L h,Option.bind_some]
 unfold iD TJ
 have h6:=V8 x L (false,[])
 simp only
 cases (L.foldl (tq x) (false,[])).1
 ·simp only [Bool.not_false,cond_true]
  rw [yI (by simp at h6;simp;omega)]
  rfl
 ·rfl
theorem JR (s:aQ):(iX s).length≤4:=by
 unfold iX
 exact Nat.le_trans (List.length_filter_le _ _) (by simp [A4.Lb])
theorem abF (x:ak) (s:aQ) (hs:GoodS s):∃ b s',dx x s=some (b,s')∧GoodS s'∧GJ x (iX s)=(b,iX s'):=by
 by_cases h1:x.Client < 0
 ·exact ⟨false,s,by unfold dx dR;rw [bI h1];rfl,hs,by unfold GJ;rw [if_pos (.inl h1)]⟩
 by_cases h2:x.Client≥4
 ·exact ⟨false,s,by unfold dx dR;rw [aZ h1,bI h2];rfl,hs,by unfold GJ;rw [if_pos (.inr (.inl h2))]⟩
 by_cases h3:x.Seq < 1
 ·exact ⟨false,s,by unfold dx dR;rw [aZ h1,aZ h2,bI h3];rfl,hs,by unfold GJ;rw [if_pos (.inr (.inr (.inl h3)))]⟩
 have hx:0 < x.Seq:=by omega
 have step:∀ a:ak,bW s.l.Lb x.Client=some a→(lastOf x.Client (iX s)).1.Seq=a.Seq→GoodS ⟨s.l.set x.Client x⟩→TJ x (iX s)=iX ⟨s.l.set x.Client x⟩ →
   ∃ b s',dx x s=some (b,s')∧GoodS s'∧GJ x (iX s)=(b,iX s'):=by
  intro a ha hl hg hn
  by_cases h4:x.Seq≤a.Seq
  ·exact ⟨false,s,by unfold dx dR;rw [aZ h1,aZ h2,aZ h3,ha];simp only [cond_false,Option.bind_some];rw [bI h4];rfl,hs,by unfold GJ;rw [if_pos (.inr (.inr (.inr (by rw [hl];exact h4))))]⟩
  ·refine ⟨true,⟨s.l.set x.Client x⟩, ?_,hg, ?_⟩
   ·unfold dx dR
    rw [aZ h1,aZ h2,aZ h3,ha]
    simp only [cond_false,Option.bind_some]
    rw [aZ h4]
    rfl
   ·unfold GJ
    rw [if_neg (by rw [hl];omega),hn]
 obtain ⟨⟨a0,a1,a2,a3⟩⟩:=s
 obtain ⟨g0,g1,g2,g3⟩:=hs
 simp only at g0 g1 g2 g3
 have hc:x.Client=0∨x.Client=1∨x.Client=2∨x.Client=3:=by omega
 rcases hc with hc | hc | hc | hc
 ·refine step a0 (by rw [hc];rfl) ?_ ?_ ?_
  ·rcases g0 with k0 | ⟨k0,q0⟩<;>rcases g1 with k1 | ⟨k1,q1⟩<;>rcases g2 with k2 | ⟨k2,q2⟩<;>rcases g3 with k3 | ⟨k3,q3⟩<;>simp [lastOf,iX,A4.Lb,Jz, *]
  ·rw [hc];exact ⟨.inr ⟨hx,hc⟩,g1,g2,g3⟩
  ·rcases g0 with k0 | ⟨k0,q0⟩<;>rcases g1 with k1 | ⟨k1,q1⟩<;>rcases g2 with k2 | ⟨k2,q2⟩<;>rcases g3 with k3 | ⟨k3,q3⟩<;>simp [TJ,tq,iX,A4.Lb,A4.set, *]
 ·refine step a1 (by rw [hc];rfl) ?_ ?_ ?_
  ·rcases g0 with k0 | ⟨k0,q0⟩<;>rcases g1 with k1 | ⟨k1,q1⟩<;>rcases g2 with k2 | ⟨k2,q2⟩<;>rcases g3 with k3 | ⟨k3,q3⟩<;>simp [lastOf,iX,A4.Lb,Jz, *]
  ·rw [hc];exact ⟨g0,.inr ⟨hx,hc⟩,g2,g3⟩
  ·rcases g0 with k0 | ⟨k0,q0⟩<;>rcases g1 with k1 | ⟨k1,q1⟩<;>rcases g2 with k2 | ⟨k2,q2⟩<;>rcases g3 with k3 | ⟨k3,q3⟩<;>simp [TJ,tq,iX,A4.Lb,A4.set, *]
 ·refine step a2 (by rw [hc];rfl) ?_ ?_ ?_
  ·rcases g0 with k0 | ⟨k0,q0⟩<;>rcases g1 with k1 | ⟨k1,q1⟩<;>rcases g2 with k2 | ⟨k2,q2⟩<;>rcases g3 with k3 | ⟨k3,q3⟩<;>simp [lastOf,iX,A4.Lb,Jz, *]
  ·rw [hc];exact ⟨g0,g1,.inr ⟨hx,hc⟩,g3⟩
  ·rcases g0 with k0 | ⟨k0,q0⟩<;>rcases g1 with k1 | ⟨k1,q1⟩<;>rcases g2 with k2 | ⟨k2,q2⟩<;>rcases g3 with k3 | ⟨k3,q3⟩<;>simp [TJ,tq,iX,A4.Lb,A4.set, *]
 ·refine step a3 (by rw [hc];rfl) ?_ ?_ ?_
  ·rcases g0 with k0 | ⟨k0,q0⟩<;>rcases g1 with k1 | ⟨k1,q1⟩<;>rcases g2 with k2 | ⟨k2,q2⟩<;>rcases g3 with k3 | ⟨k3,q3⟩<;>simp [lastOf,iX,A4.Lb,Jz, *]
  ·rw [hc];exact ⟨g0,g1,g2,.inr ⟨hx,hc⟩⟩
  ·rcases g0 with k0 | ⟨k0,q0⟩<;>rcases g1 with k1 | ⟨k1,q1⟩<;>rcases g2 with k2 | ⟨k2,q2⟩<;>rcases g3 with k3 | ⟨k3,q3⟩<;>simp [TJ,tq,iX,A4.Lb,A4.set, *]
def rF:aQ:=⟨⟨Jz,Jz,Jz,Jz⟩⟩
def vP (s:aQ) (x:ak):aQ:=match dx x s with
 | some r=>r.2
 | none=>s
theorem BX (x:ak) (s:aQ) (hs:GoodS s):(∃ b,dx x s=some (b,vP s x)∧GJ x (iX s)=(b,iX (vP s x)))∧GoodS (vP s x):=by
 obtain ⟨b,s',e1,e2,e3⟩:=abF x s hs
 have:vP s x=s':=by unfold vP;rw [e1]
 rw [this]
 exact ⟨⟨b,e1,e3⟩,e2⟩
theorem Fa (l:List ak):∀ s,GoodS s→GoodS (l.foldl vP s):=by
 induction l with
 | nil=>exact λs h=>h
 | cons x l ih=>exact λs h=>ih _ (BX x s h).2
theorem ahD (l:List ak) (h:l.length < 1000000000):∃ s,kJ l=some s∧GoodS s∧uo l=some ⟨iX s⟩:=by
 have g0:GoodS rF:=⟨.inl rfl,.inl rfl,.inl rfl,.inl rfl⟩
 refine ⟨l.foldl vP rF, ?_,Fa l _ g0, ?_⟩
 ·unfold kJ
  have key:sG l (0,rF)=some (l.foldl vP rF):=by
   refine qM (λi=>((i:Int),(l.take i).foldl vP rF)) l.length _ (λi hi=>?_) ?_ (by omega)
   ·obtain ⟨⟨b,e1,_⟩,_⟩:=BX l[i] _ (Fa (l.take i) _ g0)
    unfold gW
    simp only
    rw [bI (by omega),cond_true,fA hi,Option.bind_some,e1,Option.bind_some,fG (by omega) (by omega),fE,List.take_succ_eq_append_getElem hi,List.foldl_append]
    rfl
   ·unfold gW
    simp only
    rw [aZ (by omega),cond_false,List.take_length]
  have e:(0,rF)=((0:Int),(⟨(⟨(⟨0,0,(⟨0,([]:List UInt8)⟩:aA)⟩:ak),(⟨0,0,(⟨0,([]:List UInt8)⟩:aA)⟩:ak),(⟨0,0,(⟨0,([]:List UInt8)⟩:aA)⟩:ak),(⟨0,0,(⟨0,([]:List UInt8)⟩:aA)⟩:ak)⟩:A4 ak)⟩:aQ)):=rfl
  rw [← e,key]
  rfl
 ·unfold uo
  have key:yC l (0,[])=some (iX (l.foldl vP rF)):=by
   refine qM (λi=>((i:Int),iX ((l.take i).foldl vP rF))) l.length _ (λi hi=>?_) ?_ (by omega)
   ·obtain ⟨⟨b,_,e1⟩,_⟩:=BX l[i] _ (Fa (l.take i) _ g0)
    have hl:=JR ((l.take i).foldl vP rF)
    unfold jm
    simp only
    rw [bI (by omega),cond_true,fA hi,Option.bind_some,P7 _ _ (by omega),Option.bind_some,e1,fG (by omega) (by omega),fE,List.take_succ_eq_append_getElem hi,List.foldl_append]
    rfl
   ·unfold jm
    simp only
    rw [aZ (by omega),cond_false,List.take_length]
  rw [key]
  rfl
end Go.Proofs.YtohoggieaanllaaGreat
