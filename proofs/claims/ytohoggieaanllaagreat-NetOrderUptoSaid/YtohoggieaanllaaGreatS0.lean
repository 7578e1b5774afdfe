import Derived.Test.YtohoggieaanllaaGreatC3
import Derived.Test.YtohoggieaanllaaGreatY6
set_option linter.all false
set_option linter.unusedSimpArgs false
namespace Go.Proofs.YtohoggieaanllaaGreat
def gk (k:Int) (x:ak):Prop:=x.Seq=0∨(0 < x.Seq∧x.Client=k)
def GoodS (s:aW):Prop:=gk 0 s.l.a0∧gk 1 s.l.a1∧gk 2 s.l.a2∧gk 3 s.l.a3
def iy (s:aW):List ak:=s.l.Rn.filter (λx=>decide (0 < x.Seq))
def Pk:ak:=⟨0,0,⟨0,[]⟩⟩
def lastOf (c:Int) (L:List ak):ak×Bool:=match L.find? (λy=>y.Client==c) with
 | some y=>(y,true)
 | none=>(Pk,false)
def xw (x:ak) (p:Bool×List ak) (y:ak):Bool×List ak :=
 let q:=bif !p.1&&decide (y.Client≥x.Client) then (true,p.2++[x]) else p
 bif y.Client != x.Client then (q.1,q.2++[y]) else q
def aaz (x:ak) (L:List ak):List ak :=
 let p:=L.foldl (xw x) (false,[])
 bif !p.1 then p.2++[x] else p.2
def Mx (x:ak) (L:List ak):Bool×List ak :=
 if x.Client < 0∨4≤x.Client∨x.Seq < 1∨x.Seq≤(lastOf x.Client L).1.Seq then (false,L) else (true,aaz x L)
theorem adh (c:Int) (L:List ak) (h:L.length < 1000000):∀ f:Int→Option (Int⊕(ak⊕Unit)),
  (∀ s,f s=cond (decide (s < (L.length:Int))) ((bO L s).bind λ(x4:ak)=>cond (x4.Client==c) ((bO L s).bind λ(x5:ak)=>some (.inr (.inl x5))) (some (.inl (IntKind.i64.wrap (s+1))))) (some (.inr (.inr ())))) →
  bT f KK 0=some (match L.find? (λy=>y.Client==c) with | some y=>.inl y | none=>.inr ()):=by
 intro f hf
 have key:∃ e,bT f KK ((0:Nat):Int)=some e∧e=(match L.find? (λy=>y.Client==c) with | some y=>.inl y | none=>.inr ()):=by
  refine mW (λs=>L.length - s.toNat) (λs=>∃ i:Nat,s=(i:Int)∧i≤L.length∧L.find? (λy=>y.Client==c)=(L.drop i).find? (λy=>y.Client==c)) _ ?_ KK _ ⟨0,rfl,by omega,rfl⟩ (by have:=rO;omega)
  rintro s ⟨i,rfl,h1,h2⟩
  rw [hf]
  by_cases hi:i < L.length
  ·rw [aZ (by omega),cond_true,dI hi,Option.bind_some,Option.bind_some]
   rw [List.drop_eq_getElem_cons hi,List.find?_cons] at h2
   cases e:(L[i].Client==c)
   ·left
    rw [cond_false,bU (by omega) (by omega),cO]
    rw [e] at h2
    exact ⟨_,rfl,⟨i+1,rfl,by omega,h2⟩,by omega⟩
   ·right
    rw [e] at h2
    rw [cond_true,h2]
    exact ⟨_,rfl,rfl⟩
  ·right
   rw [aV (by omega),cond_false,h2,List.drop_of_length_le (by omega)]
   exact ⟨_,rfl,rfl⟩
 obtain ⟨e,e1,rfl⟩:=key
 exact e1
theorem Xh (c:Int) (L:List ak) (h:L.length < 1000000):nA c L=some (lastOf c L):=by
 unfold nA sW lastOf
 rw [adh c L h (jv L c) (λ_=>rfl),Option.bind_some]
 cases L.find? (λy=>y.Client==c)<;>rfl
theorem adi (x:ak) (L:List ak):∀ p:Bool×List ak,(L.foldl (xw x) p).2.length≤p.2.length+2 * L.length:=by
 induction L with
 | nil=>intro p;simp
 | cons y L ih =>
  intro p
  refine Nat.le_trans (ih _) ?_
  have:(xw x p y).2.length≤p.2.length+2:=by
   unfold xw
   cases (!p.1&&decide (y.Client≥x.Client))<;>cases (y.Client != x.Client)<;>simp
  simp only [List.length_cons]
  omega
theorem zN {β:Type} {n:Nat} {x:Option β} (h:n < 1000000):gd (dh 40 n) x=x:=by
 refine jK ?_
 unfold dh
 simp
 omega
theorem aaA (x:ak) (L:List ak) (h:L.length < 1000):kr L x (false,0,[])=some (L.foldl (xw x) (false,[])):=by
 have e0:((false,0,[]):Bool×Int×List ak)=(((L.take 0).foldl (xw x) (false,[])).1,((0:Nat):Int),((L.take 0).foldl (xw x) (false,[])).2):=by simp
 unfold kr
 rw [e0]
 refine qK (λi=>(((L.take i).foldl (xw x) (false,[])).1,(i:Int),((L.take i).foldl (xw x) (false,[])).2)) L.length _ (λi hi=>?_) ?_ (by omega)
 ·have h5:(L.take (i+1)).foldl (xw x) (false,[])=xw x ((L.take i).foldl (xw x) (false,[])) L[i]:=by
   rw [List.take_succ_eq_append_getElem hi,List.foldl_append]
   rfl
  have h6:=adi x (L.take i) (false,[])
  have h7:(L.take i).length≤1000:=by rw [List.length_take];omega
  rw [h5]
  generalize (L.take i).foldl (xw x) (false,[])=p at *
  obtain ⟨b,o⟩:=p
  have h8:o.length < 10000:=by simp at h6;omega
  have h9:∀ (l:List ak),o.length≤l.length→l.length≤o.length+2→l.length < 1000000:=λl _ _=>by omega
  unfold iw
  simp only
  rw [aZ (by omega),cond_true]
  unfold nS nR
  simp only
  rw [dI hi]
  simp only [Option.bind_some]
  unfold xw
  simp only
  rw [bU (x:=(i:Int)+1) (by omega) (by omega),cO]
  cases b
  ·simp only [Bool.not_false,cond_true,Option.bind_some,Bool.true_and]
   cases (decide (L[i].Client≥x.Client))<;>simp only [cond_true,cond_false,Option.bind_some]
   ·cases (L[i].Client != x.Client)<;>simp only [cond_true,cond_false]
    rw [zN (by simp;omega)]
   ·rw [zN (by simp;omega),Option.bind_some]
    cases (L[i].Client != x.Client)<;>simp only [cond_true,cond_false]
    rw [zN (by simp;omega)]
  ·simp only [Bool.not_true,cond_false,Option.bind_some,Bool.false_and]
   cases (L[i].Client != x.Client)<;>simp only [cond_true,cond_false]
   rw [zN (by simp;omega)]
 ·unfold iw
  simp only
  rw [aV (by omega),cond_false,List.take_length]
theorem Xi (x:ak) (L:List ak) (h:L.length < 1000):jo x L=some (Mx x L):=by
 unfold jo
 rw [Xh _ _ (by omega),Option.bind_some]
 unfold Mx iV
 by_cases h1:x.Client < 0
 ·rw [aZ h1,if_pos (.inl h1)];rfl
 rw [aV h1,cond_false]
 by_cases h2:x.Client≥4
 ·rw [aZ h2,if_pos (.inr (.inl h2))];rfl
 rw [aV h2,cond_false]
 by_cases h3:x.Seq < 1
 ·rw [aZ h3,if_pos (.inr (.inr (.inl h3)))];rfl
 rw [aV h3,cond_false]
 by_cases h4:x.Seq≤(lastOf x.Client L).1.Seq
 ·rw [aZ h4,if_pos (.inr (.inr (.inr h4)))];rfl
 rw [aV h4,cond_false,if_neg (by omega),Option.bind_some]
 simp only [jI,cond_false]
 rw [aaA x L h,Option.bind_some]
 unfold iW aaz
 have h6:=adi x L (false,[])
 simp only
 cases (L.foldl (xw x) (false,[])).1
 ·simp only [Bool.not_false,cond_true]
  rw [zN (by simp at h6;simp;omega)]
  rfl
 ·rfl
theorem Ll (s:aW):(iy s).length≤4:=by
 unfold iy
 exact Nat.le_trans (List.length_filter_le _ _) (by simp [A4.Rn])
theorem ajq (x:ak) (s:aW) (hs:GoodS s):∃ b s',dK x s=some (b,s')∧GoodS s'∧Mx x (iy s)=(b,iy s'):=by
 by_cases h1:x.Client < 0
 ·exact ⟨false,s,by unfold dK eH;rw [aZ h1];rfl,hs,by unfold Mx;rw [if_pos (.inl h1)]⟩
 by_cases h2:x.Client≥4
 ·exact ⟨false,s,by unfold dK eH;rw [aV h1,aZ h2];rfl,hs,by unfold Mx;rw [if_pos (.inr (.inl h2))]⟩
 by_cases h3:x.Seq < 1
 ·exact ⟨false,s,by unfold dK eH;rw [aV h1,aV h2,aZ h3];rfl,hs,by unfold Mx;rw [if_pos (.inr (.inr (.inl h3)))]⟩
 have hx:0 < x.Seq:=by omega
 have step:∀ a:ak,bO s.l.Rn x.Client=some a→(lastOf x.Client (iy s)).1.Seq=a.Seq→GoodS ⟨s.l.set x.Client x⟩→aaz x (iy s)=iy ⟨s.l.set x.Client x⟩ →
   ∃ b s',dK x s=some (b,s')∧GoodS s'∧Mx x (iy s)=(b,iy s'):=by
  intro a ha hl hg hn
  by_cases h4:x.Seq≤a.Seq
  ·exact ⟨false,s,by unfold dK eH;rw [aV h1,aV h2,aV h3,ha];simp only [cond_false,Option.bind_some];rw [aZ h4];rfl,hs,by unfold Mx;rw [if_pos (.inr (.inr (.inr (by rw [hl];exact h4))))]⟩
  ·refine ⟨true,⟨s.l.set x.Client x⟩, ?_,hg, ?_⟩
   ·unfold dK eH
    rw [aV h1,aV h2,aV h3,ha]
    simp only [cond_false,Option.bind_some]
    rw [aV h4]
    rfl
   ·unfold Mx
    rw [if_neg (by rw [hl];omega),hn]
 obtain ⟨⟨a0,a1,a2,a3⟩⟩:=s
 obtain ⟨g0,g1,g2,g3⟩:=hs
 simp only at g0 g1 g2 g3
 have hc:x.Client=0∨x.Client=1∨x.Client=2∨x.Client=3:=by omega
 rcases hc with hc | hc | hc | hc
 ·refine step a0 (by rw [hc];rfl) ?_ ?_ ?_
  ·rcases g0 with k0 | ⟨k0,q0⟩<;>rcases g1 with k1 | ⟨k1,q1⟩<;>rcases g2 with k2 | ⟨k2,q2⟩<;>rcases g3 with k3 | ⟨k3,q3⟩<;>simp [lastOf,iy,A4.Rn,Pk, *]
  ·rw [hc];exact ⟨.inr ⟨hx,hc⟩,g1,g2,g3⟩
  ·rcases g0 with k0 | ⟨k0,q0⟩<;>rcases g1 with k1 | ⟨k1,q1⟩<;>rcases g2 with k2 | ⟨k2,q2⟩<;>rcases g3 with k3 | ⟨k3,q3⟩<;>simp [aaz,xw,iy,A4.Rn,A4.set, *]
 ·refine step a1 (by rw [hc];rfl) ?_ ?_ ?_
  ·rcases g0 with k0 | ⟨k0,q0⟩<;>rcases g1 with k1 | ⟨k1,q1⟩<;>rcases g2 with k2 | ⟨k2,q2⟩<;>rcases g3 with k3 | ⟨k3,q3⟩<;>simp [lastOf,iy,A4.Rn,Pk, *]
  ·rw [hc];exact ⟨g0,.inr ⟨hx,hc⟩,g2,g3⟩
  ·rcases g0 with k0 | ⟨k0,q0⟩<;>rcases g1 with k1 | ⟨k1,q1⟩<;>rcases g2 with k2 | ⟨k2,q2⟩<;>rcases g3 with k3 | ⟨k3,q3⟩<;>simp [aaz,xw,iy,A4.Rn,A4.set, *]
 ·refine step a2 (by rw [hc];rfl) ?_ ?_ ?_
  ·rcases g0 with k0 | ⟨k0,q0⟩<;>rcases g1 with k1 | ⟨k1,q1⟩<;>rcases g2 with k2 | ⟨k2,q2⟩<;>rcases g3 with k3 | ⟨k3,q3⟩<;>simp [lastOf,iy,A4.Rn,Pk, *]
  ·rw [hc];exact ⟨g0,g1,.inr ⟨hx,hc⟩,g3⟩
  ·rcases g0 with k0 | ⟨k0,q0⟩<;>rcases g1 with k1 | ⟨k1,q1⟩<;>rcases g2 with k2 | ⟨k2,q2⟩<;>rcases g3 with k3 | ⟨k3,q3⟩<;>simp [aaz,xw,iy,A4.Rn,A4.set, *]
 ·refine step a3 (by rw [hc];rfl) ?_ ?_ ?_
  ·rcases g0 with k0 | ⟨k0,q0⟩<;>rcases g1 with k1 | ⟨k1,q1⟩<;>rcases g2 with k2 | ⟨k2,q2⟩<;>rcases g3 with k3 | ⟨k3,q3⟩<;>simp [lastOf,iy,A4.Rn,Pk, *]
  ·rw [hc];exact ⟨g0,g1,g2,.inr ⟨hx,hc⟩⟩
  ·rcases g0 with k0 | ⟨k0,q0⟩<;>rcases g1 with k1 | ⟨k1,q1⟩<;>rcases g2 with k2 | ⟨k2,q2⟩<;>rcases g3 with k3 | ⟨k3,q3⟩<;>simp [aaz,xw,iy,A4.Rn,A4.set, *]
def vI:aW:=⟨⟨Pk,Pk,Pk,Pk⟩⟩
def zO (s:aW) (x:ak):aW:=match dK x s with
 | some r=>r.2
 | none=>s
theorem Gv (x:ak) (s:aW) (hs:GoodS s):(∃ b,dK x s=some (b,zO s x)∧Mx x (iy s)=(b,iy (zO s x)))∧GoodS (zO s x):=by
 obtain ⟨b,s',e1,e2,e3⟩:=ajq x s hs
 have:zO s x=s':=by unfold zO;rw [e1]
 rw [this]
 exact ⟨⟨b,e1,e3⟩,e2⟩
theorem Kz (l:List ak):∀ s,GoodS s→GoodS (l.foldl zO s):=by
 induction l with
 | nil=>exact λs h=>h
 | cons x l ih=>exact λs h=>ih _ (Gv x s h).2
theorem ag7 (l:List ak) (h:l.length < 1000000000):∃ s,mM l=some s∧GoodS s∧xZ l=some ⟨iy s⟩:=by
 have g0:GoodS vI:=⟨.inl rfl,.inl rfl,.inl rfl,.inl rfl⟩
 refine ⟨l.foldl zO vI, ?_,Kz l _ g0, ?_⟩
 ·unfold mM
  have key:wH l (0,vI)=some (l.foldl zO vI):=by
   refine qK (λi=>((i:Int),(l.take i).foldl zO vI)) l.length _ (λi hi=>?_) ?_ (by omega)
   ·obtain ⟨⟨b,e1,_⟩,_⟩:=Gv l[i] _ (Kz (l.take i) _ g0)
    unfold iB
    simp only
    rw [aZ (by omega),cond_true,dI hi,Option.bind_some,e1,Option.bind_some,bU (by omega) (by omega),cO,List.take_succ_eq_append_getElem hi,List.foldl_append]
    rfl
   ·unfold iB
    simp only
    rw [aV (by omega),cond_false,List.take_length]
  have e:(0,vI)=((0:Int),(⟨(⟨(⟨0,0,(⟨0,([]:List UInt8)⟩:aD)⟩:ak),(⟨0,0,(⟨0,([]:List UInt8)⟩:aD)⟩:ak),(⟨0,0,(⟨0,([]:List UInt8)⟩:aD)⟩:ak),(⟨0,0,(⟨0,([]:List UInt8)⟩:aD)⟩:ak)⟩:A4 ak)⟩:aW)):=rfl
  rw [← e,key]
  rfl
 ·unfold xZ
  have key:BQ l (0,[])=some (iy (l.foldl zO vI)):=by
   refine qK (λi=>((i:Int),iy ((l.take i).foldl zO vI))) l.length _ (λi hi=>?_) ?_ (by omega)
   ·obtain ⟨⟨b,_,e1⟩,_⟩:=Gv l[i] _ (Kz (l.take i) _ g0)
    have hl:=Ll ((l.take i).foldl zO vI)
    unfold kD
    simp only
    rw [aZ (by omega),cond_true,dI hi,Option.bind_some,Xi _ _ (by omega),Option.bind_some,e1,bU (by omega) (by omega),cO,List.take_succ_eq_append_getElem hi,List.foldl_append]
    rfl
   ·unfold kD
    simp only
    rw [aV (by omega),cond_false,List.take_length]
  rw [key]
  rfl
end Go.Proofs.YtohoggieaanllaaGreat
