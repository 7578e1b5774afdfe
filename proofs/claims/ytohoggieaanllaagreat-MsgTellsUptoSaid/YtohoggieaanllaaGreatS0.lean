import Derived.Test.YtohoggieaanllaaGreatC3
import Derived.Test.YtohoggieaanllaaGreatY7
set_option linter.all false
set_option linter.unusedSimpArgs false
namespace Go.Proofs.YtohoggieaanllaaGreat
def gk (k:Int) (x:au):Prop:=x.Seq=0∨(0 < x.Seq∧x.Client=k)
def GoodS (s:aW):Prop:=gk 0 s.l.a0∧gk 1 s.l.a1∧gk 2 s.l.a2∧gk 3 s.l.a3
def iP (s:aW):List au:=s.l.RX.filter (λx=>decide (0 < x.Seq))
def PU:au:=⟨0,0,⟨0,[]⟩⟩
def lastOf (c:Int) (L:List au):au×Bool:=match L.find? (λy=>y.Client==c) with
 | some y=>(y,true)
 | none=>(PU,false)
def xX (x:au) (p:Bool×List au) (y:au):Bool×List au :=
 let q:=bif !p.1&&decide (y.Client≥x.Client) then (true,p.2++[x]) else p
 bif y.Client != x.Client then (q.1,q.2++[y]) else q
def abb (x:au) (L:List au):List au :=
 let p:=L.foldl (xX x) (false,[])
 bif !p.1 then p.2++[x] else p.2
def Nf (x:au) (L:List au):Bool×List au :=
 if x.Client < 0∨4≤x.Client∨x.Seq < 1∨x.Seq≤(lastOf x.Client L).1.Seq then (false,L) else (true,abb x L)
theorem adS (c:Int) (L:List au) (h:L.length < 1000000):∀ f:Int→Option (Int⊕(au⊕Unit)),
  (∀ s,f s=cond (decide (s < (L.length:Int))) ((bV L s).bind λ(x4:au)=>cond (x4.Client==c) ((bV L s).bind λ(x5:au)=>some (.inr (.inl x5))) (some (.inl (IntKind.i64.wrap (s+1))))) (some (.inr (.inr ())))) →
  bQ f KK 0=some (match L.find? (λy=>y.Client==c) with | some y=>.inl y | none=>.inr ()):=by
 intro f hf
 have key:∃ e,bQ f KK ((0:Nat):Int)=some e∧e=(match L.find? (λy=>y.Client==c) with | some y=>.inl y | none=>.inr ()):=by
  refine kX (λs=>L.length - s.toNat) (λs=>∃ i:Nat,s=(i:Int)∧i≤L.length∧L.find? (λy=>y.Client==c)=(L.drop i).find? (λy=>y.Client==c)) _ ?_ KK _ ⟨0,rfl,by omega,rfl⟩ (by have:=kr;omega)
  rintro s ⟨i,rfl,h1,h2⟩
  rw [hf]
  by_cases hi:i < L.length
  ·rw [bf (by omega),cond_true,dP hi,Option.bind_some,Option.bind_some]
   rw [List.drop_eq_getElem_cons hi,List.find?_cons] at h2
   cases e:(L[i].Client==c)
   ·left
    rw [cond_false,bM (by omega) (by omega),dA]
    rw [e] at h2
    exact ⟨_,rfl,⟨i+1,rfl,by omega,h2⟩,by omega⟩
   ·right
    rw [e] at h2
    rw [cond_true,h2]
    exact ⟨_,rfl,rfl⟩
  ·right
   rw [aT (by omega),cond_false,h2,List.drop_of_length_le (by omega)]
   exact ⟨_,rfl,rfl⟩
 obtain ⟨e,e1,rfl⟩:=key
 exact e1
theorem XT (c:Int) (L:List au) (h:L.length < 1000000):om c L=some (lastOf c L):=by
 unfold om uL lastOf
 rw [adS c L h (jQ L c) (λ_=>rfl),Option.bind_some]
 cases L.find? (λy=>y.Client==c)<;>rfl
theorem adT (x:au) (L:List au):∀ p:Bool×List au,(L.foldl (xX x) p).2.length≤p.2.length+2 * L.length:=by
 induction L with
 | nil=>intro p;simp
 | cons y L ih =>
  intro p
  refine Nat.le_trans (ih _) ?_
  have:(xX x p y).2.length≤p.2.length+2:=by
   unfold xX
   cases (!p.1&&decide (y.Client≥x.Client))<;>cases (y.Client != x.Client)<;>simp
  simp only [List.length_cons]
  omega
theorem Ad {β:Type} {n:Nat} {x:Option β} (h:n < 1000000):gd (dx 40 n) x=x:=by
 refine jH ?_
 unfold dx
 simp
 omega
theorem abd (x:au) (L:List au) (h:L.length < 1000):kV L x (false,0,[])=some (L.foldl (xX x) (false,[])):=by
 have e0:((false,0,[]):Bool×Int×List au)=(((L.take 0).foldl (xX x) (false,[])).1,((0:Nat):Int),((L.take 0).foldl (xX x) (false,[])).2):=by simp
 unfold kV
 rw [e0]
 refine ng (λi=>(((L.take i).foldl (xX x) (false,[])).1,(i:Int),((L.take i).foldl (xX x) (false,[])).2)) L.length _ (λi hi=>?_) ?_ (by omega)
 ·have h5:(L.take (i+1)).foldl (xX x) (false,[])=xX x ((L.take i).foldl (xX x) (false,[])) L[i]:=by
   rw [List.take_succ_eq_append_getElem hi,List.foldl_append]
   rfl
  have h6:=adT x (L.take i) (false,[])
  have h7:(L.take i).length≤1000:=by rw [List.length_take];omega
  rw [h5]
  generalize (L.take i).foldl (xX x) (false,[])=p at *
  obtain ⟨b,o⟩:=p
  have h8:o.length < 10000:=by simp at h6;omega
  have h9:∀ (l:List au),o.length≤l.length→l.length≤o.length+2→l.length < 1000000:=λl _ _=>by omega
  unfold iO
  simp only
  rw [bf (by omega),cond_true]
  unfold pq o_
  simp only
  rw [dP hi]
  simp only [Option.bind_some]
  unfold xX
  simp only
  rw [bM (x:=(i:Int)+1) (by omega) (by omega),dA]
  cases b
  ·simp only [Bool.not_false,cond_true,Option.bind_some,Bool.true_and]
   cases (decide (L[i].Client≥x.Client))<;>simp only [cond_true,cond_false,Option.bind_some]
   ·cases (L[i].Client != x.Client)<;>simp only [cond_true,cond_false]
    rw [Ad (by simp;omega)]
   ·rw [Ad (by simp;omega),Option.bind_some]
    cases (L[i].Client != x.Client)<;>simp only [cond_true,cond_false]
    rw [Ad (by simp;omega)]
  ·simp only [Bool.not_true,cond_false,Option.bind_some,Bool.false_and]
   cases (L[i].Client != x.Client)<;>simp only [cond_true,cond_false]
   rw [Ad (by simp;omega)]
 ·unfold iO
  simp only
  rw [aT (by omega),cond_false,List.take_length]
theorem XU (x:au) (L:List au) (h:L.length < 1000):jL x L=some (Nf x L):=by
 unfold jL
 rw [XT _ _ (by omega),Option.bind_some]
 unfold Nf jm
 by_cases h1:x.Client < 0
 ·rw [bf h1,if_pos (.inl h1)];rfl
 rw [aT h1,cond_false]
 by_cases h2:x.Client≥4
 ·rw [bf h2,if_pos (.inr (.inl h2))];rfl
 rw [aT h2,cond_false]
 by_cases h3:x.Seq < 1
 ·rw [bf h3,if_pos (.inr (.inr (.inl h3)))];rfl
 rw [aT h3,cond_false]
 by_cases h4:x.Seq≤(lastOf x.Client L).1.Seq
 ·rw [bf h4,if_pos (.inr (.inr (.inr h4)))];rfl
 rw [aT h4,cond_false,if_neg (by omega),Option.bind_some]
 simp only [jO,cond_false]
 rw [abd x L h,Option.bind_some]
 unfold jo abb
 have h6:=adT x L (false,[])
 simp only
 cases (L.foldl (xX x) (false,[])).1
 ·simp only [Bool.not_false,cond_true]
  rw [Ad (by simp at h6;simp;omega)]
  rfl
 ·rfl
theorem Md (s:aW):(iP s).length≤4:=by
 unfold iP
 exact Nat.le_trans (List.length_filter_le _ _) (by simp [A4.RX])
theorem ajS (x:au) (s:aW) (hs:GoodS s):∃ b s',dU x s=some (b,s')∧GoodS s'∧Nf x (iP s)=(b,iP s'):=by
 by_cases h1:x.Client < 0
 ·exact ⟨false,s,by unfold dU fu;rw [bf h1];rfl,hs,by unfold Nf;rw [if_pos (.inl h1)]⟩
 by_cases h2:x.Client≥4
 ·exact ⟨false,s,by unfold dU fu;rw [aT h1,bf h2];rfl,hs,by unfold Nf;rw [if_pos (.inr (.inl h2))]⟩
 by_cases h3:x.Seq < 1
 ·exact ⟨false,s,by unfold dU fu;rw [aT h1,aT h2,bf h3];rfl,hs,by unfold Nf;rw [if_pos (.inr (.inr (.inl h3)))]⟩
 have hx:0 < x.Seq:=by omega
 have step:∀ a:au,bV s.l.RX x.Client=some a→(lastOf x.Client (iP s)).1.Seq=a.Seq→GoodS ⟨s.l.set x.Client x⟩→abb x (iP s)=iP ⟨s.l.set x.Client x⟩ →
   ∃ b s',dU x s=some (b,s')∧GoodS s'∧Nf x (iP s)=(b,iP s'):=by
  intro a ha hl hg hn
  by_cases h4:x.Seq≤a.Seq
  ·exact ⟨false,s,by unfold dU fu;rw [aT h1,aT h2,aT h3,ha];simp only [cond_false,Option.bind_some];rw [bf h4];rfl,hs,by unfold Nf;rw [if_pos (.inr (.inr (.inr (by rw [hl];exact h4))))]⟩
  ·refine ⟨true,⟨s.l.set x.Client x⟩, ?_,hg, ?_⟩
   ·unfold dU fu
    rw [aT h1,aT h2,aT h3,ha]
    simp only [cond_false,Option.bind_some]
    rw [aT h4]
    rfl
   ·unfold Nf
    rw [if_neg (by rw [hl];omega),hn]
 obtain ⟨⟨a0,a1,a2,a3⟩⟩:=s
 obtain ⟨g0,g1,g2,g3⟩:=hs
 simp only at g0 g1 g2 g3
 have hc:x.Client=0∨x.Client=1∨x.Client=2∨x.Client=3:=by omega
 rcases hc with hc | hc | hc | hc
 ·refine step a0 (by rw [hc];rfl) ?_ ?_ ?_
  ·rcases g0 with k0 | ⟨k0,q0⟩<;>rcases g1 with k1 | ⟨k1,q1⟩<;>rcases g2 with k2 | ⟨k2,q2⟩<;>rcases g3 with k3 | ⟨k3,q3⟩<;>simp [lastOf,iP,A4.RX,PU, *]
  ·rw [hc];exact ⟨.inr ⟨hx,hc⟩,g1,g2,g3⟩
  ·rcases g0 with k0 | ⟨k0,q0⟩<;>rcases g1 with k1 | ⟨k1,q1⟩<;>rcases g2 with k2 | ⟨k2,q2⟩<;>rcases g3 with k3 | ⟨k3,q3⟩<;>simp [abb,xX,iP,A4.RX,A4.set, *]
 ·refine step a1 (by rw [hc];rfl) ?_ ?_ ?_
  ·rcases g0 with k0 | ⟨k0,q0⟩<;>rcases g1 with k1 | ⟨k1,q1⟩<;>rcases g2 with k2 | ⟨k2,q2⟩<;>rcases g3 with k3 | ⟨k3,q3⟩<;>simp [lastOf,iP,A4.RX,PU, *]
  ·rw [hc];exact ⟨g0,.inr ⟨hx,hc⟩,g2,g3⟩
  ·rcases g0 with k0 | ⟨k0,q0⟩<;>rcases g1 with k1 | ⟨k1,q1⟩<;>rcases g2 with k2 | ⟨k2,q2⟩<;>rcases g3 with k3 | ⟨k3,q3⟩<;>simp [abb,xX,iP,A4.RX,A4.set, *]
 ·refine step a2 (by rw [hc];rfl) ?_ ?_ ?_
  ·rcases g0 with k0 | ⟨k0,q0⟩<;>rcases g1 with k1 | ⟨k1,q1⟩<;>rcases g2 with k2 | ⟨k2,q2⟩<;>rcases g3 with k3 | ⟨k3,q3⟩<;>simp [lastOf,iP,A4.RX,PU, *]
  ·rw [hc];exact ⟨g0,g1,.inr ⟨hx,hc⟩,g3⟩
  ·rcases g0 with k0 | ⟨k0,q0⟩<;>rcases g1 with k1 | ⟨k1,q1⟩<;>rcases g2 with k2 | ⟨k2,q2⟩<;>rcases g3 with k3 | ⟨k3,q3⟩<;>simp [abb,xX,iP,A4.RX,A4.set, *]
 ·refine step a3 (by rw [hc];rfl) ?_ ?_ ?_
  ·rcases g0 with k0 | ⟨k0,q0⟩<;>rcases g1 with k1 | ⟨k1,q1⟩<;>rcases g2 with k2 | ⟨k2,q2⟩<;>rcases g3 with k3 | ⟨k3,q3⟩<;>simp [lastOf,iP,A4.RX,PU, *]
  ·rw [hc];exact ⟨g0,g1,g2,.inr ⟨hx,hc⟩⟩
  ·rcases g0 with k0 | ⟨k0,q0⟩<;>rcases g1 with k1 | ⟨k1,q1⟩<;>rcases g2 with k2 | ⟨k2,q2⟩<;>rcases g3 with k3 | ⟨k3,q3⟩<;>simp [abb,xX,iP,A4.RX,A4.set, *]
def wI:aW:=⟨⟨PU,PU,PU,PU⟩⟩
def Ae (s:aW) (x:au):aW:=match dU x s with
 | some r=>r.2
 | none=>s
theorem Hg (x:au) (s:aW) (hs:GoodS s):(∃ b,dU x s=some (b,Ae s x)∧Nf x (iP s)=(b,iP (Ae s x)))∧GoodS (Ae s x):=by
 obtain ⟨b,s',e1,e2,e3⟩:=ajS x s hs
 have:Ae s x=s':=by unfold Ae;rw [e1]
 rw [this]
 exact ⟨⟨b,e1,e3⟩,e2⟩
theorem K8 (l:List au):∀ s,GoodS s→GoodS (l.foldl Ae s):=by
 induction l with
 | nil=>exact λs h=>h
 | cons x l ih=>exact λs h=>ih _ (Hg x s h).2
theorem ahK (l:List au) (h:l.length < 1000000000):∃ s,nN l=some s∧GoodS s∧yL l=some ⟨iP s⟩:=by
 have g0:GoodS wI:=⟨.inl rfl,.inl rfl,.inl rfl,.inl rfl⟩
 refine ⟨l.foldl Ae wI, ?_,K8 l _ g0, ?_⟩
 ·unfold nN
  have key:xC l (0,wI)=some (l.foldl Ae wI):=by
   refine ng (λi=>((i:Int),(l.take i).foldl Ae wI)) l.length _ (λi hi=>?_) ?_ (by omega)
   ·obtain ⟨⟨b,e1,_⟩,_⟩:=Hg l[i] _ (K8 (l.take i) _ g0)
    unfold iQ
    simp only
    rw [bf (by omega),cond_true,dP hi,Option.bind_some,e1,Option.bind_some,bM (by omega) (by omega),dA,List.take_succ_eq_append_getElem hi,List.foldl_append]
    rfl
   ·unfold iQ
    simp only
    rw [aT (by omega),cond_false,List.take_length]
  have e:(0,wI)=((0:Int),(⟨(⟨(⟨0,0,(⟨0,([]:List UInt8)⟩:aB)⟩:au),(⟨0,0,(⟨0,([]:List UInt8)⟩:aB)⟩:au),(⟨0,0,(⟨0,([]:List UInt8)⟩:aB)⟩:au),(⟨0,0,(⟨0,([]:List UInt8)⟩:aB)⟩:au)⟩:A4 au)⟩:aW)):=rfl
  rw [← e,key]
  rfl
 ·unfold yL
  have key:CB l (0,[])=some (iP (l.foldl Ae wI)):=by
   refine ng (λi=>((i:Int),iP ((l.take i).foldl Ae wI))) l.length _ (λi hi=>?_) ?_ (by omega)
   ·obtain ⟨⟨b,_,e1⟩,_⟩:=Hg l[i] _ (K8 (l.take i) _ g0)
    have hl:=Md ((l.take i).foldl Ae wI)
    unfold kY
    simp only
    rw [bf (by omega),cond_true,dP hi,Option.bind_some,XU _ _ (by omega),Option.bind_some,e1,bM (by omega) (by omega),dA,List.take_succ_eq_append_getElem hi,List.foldl_append]
    rfl
   ·unfold kY
    simp only
    rw [aT (by omega),cond_false,List.take_length]
  rw [key]
  rfl
end Go.Proofs.YtohoggieaanllaaGreat
