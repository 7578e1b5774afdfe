import Derived.Test.YtohoggieaanllaaGreatN1
import Derived.Test.YtohoggieaanllaaGreatK1
import Derived.Test.YtohoggieaanllaaGreatY6
set_option linter.all false
set_option linter.unusedSimpArgs false
namespace Go.Proofs.YtohoggieaanllaaGreat
theorem ay3 (b:List UInt8) (l:List Int) (h:b.length+10 * l.length < 1000000000):F9 b l=some (Zc b l):=oI b l h
theorem vH (b:List UInt8) {l:List Int} (h:∀ x∈l,uz x):Zc b l=b++l.flatMap eN:=by
 unfold Zc
 rw [if_pos (List.all_eq_true.2 λx hx=>by have:=h x hx;simp [Tj];exact this)]
 rfl
theorem V8 (s:List UInt8) (h:okS s):(eT s).length≤s.length+9:=by
 have:=Ny h
 unfold eT
 rw [List.length_append]
 omega
theorem aqh (l:List (List UInt8)) (i:Nat):((l.take i).flatMap eT).length≤(l.flatMap eT).length:=by
 rw [← List.take_append_drop i l,List.flatMap_append,List.length_append,List.take_append_drop]
 omega
theorem alU (b:List UInt8) (l:List (List UInt8)) (h:b.length+(l.flatMap eT).length < 900000000) (hl:l.length < 1000000000) (f:Int×List UInt8→Option ((Int×List UInt8)⊕(List UInt8)))
  (hf:∀ s5,f s5=cond (decide (s5.1 < (l.length:Int))) ((bO l s5.1).bind λ(x6:List UInt8)=>(F9 s5.2 ([(x6.length:Int)])).bind λ(x7:List UInt8)=>gd (dh 1 (x7++x6).length) (some (.inl ((IntKind.i64.wrap (s5.1+1)),(x7++x6))))) (some (.inr s5.2))) :
  bT f KK (0,b)=some (b++l.flatMap eT):=by
 have e0:((0:Int),b)=(((0:Nat):Int),b++(l.take 0).flatMap eT):=by simp
 rw [e0]
 refine qK (λi=>((i:Int),b++(l.take i).flatMap eT)) l.length _ (λi hi=>?_) ?_ (by omega)
 ·have h5:(l.take (i+1)).flatMap eT=(l.take i).flatMap eT++eT l[i]:=by
   rw [List.take_succ_eq_append_getElem hi,List.flatMap_append]
   simp
  have h6:=aqh l (i+1)
  rw [h5,List.length_append] at h6
  have h7:(eT l[i]).length=(qx l[i].length).length+l[i].length:=by unfold eT;rw [List.length_append]
  rw [hf]
  simp only
  rw [aZ (by omega),cond_true,dI hi,Option.bind_some,ay3 _ _ (by simp only [List.length_append,List.length_singleton];omega),Option.bind_some,ak6 _ (by omega),
   CX (by simp only [List.length_append];omega),bU (by omega) (by omega),cO,h5]
  unfold eT
  simp only [List.append_assoc]
 ·rw [hf]
  simp only
  rw [aV (by omega),cond_false,List.take_length]
theorem Sj (b:List UInt8) (l:List (List UInt8)) (h:b.length+(l.flatMap eT).length < 900000000) (hl:l.length < 1000000000):Ca b l=some (b++l.flatMap eT):=by
 unfold Ca K9
 rw [CX (by omega),alU b l h hl (u_ l) (λ_=>rfl)]
 rfl
theorem Ph (b:List UInt8) (n:Nat) (hb:b.length < 900000000) (hn:n < 1000000):zi b (n:Int)=some (match gP jZ n b with
  | .inl e=>([],[],e)
  | .inr (l,r)=>(l,r,0)):=by
 have key:∀ (j:Nat) (k a:Nat) (acc:List Int),j≤n→a≤b.length→acc.length=n - j→j < k →
   ∃ r',bT (ji (n:Int) b) k ((a:Int),((n - j:Nat):Int),acc)=some r'∧(match gP jZ j (b.drop a) with
    | .inl e=>r'=.inl e
    | .inr (l,r)=>∃ c:Nat,r'=.inr ((c:Int),acc++l)∧c≤b.length∧r=b.drop c):=by
  intro j
  induction j with
  | zero =>
   intro k a acc _ ha hl hk
   obtain ⟨k,rfl⟩:∃ i,k=i+1:=⟨k - 1,by omega⟩
   have e:ji (n:Int) b ((a:Int),((n - 0:Nat):Int),acc)=some (.inr (.inr ((a:Int),acc))):=by
    unfold ji
    simp only
    rw [aV (by split<;>omega),cond_false]
   refine ⟨_,by simp only [bT,e];rfl, ?_⟩
   simp only [gP]
   exact ⟨a,by simp,ha,rfl⟩
  | succ j ih =>
   intro k a acc hj ha hl hk
   obtain ⟨k,rfl⟩:∃ i,k=i+1:=⟨k - 1,by omega⟩
   have hs:LQ b (a:Int) (b.length:Int)=some (b.drop a):=uK b a ha
   have ht:=Sg (b.drop a) (by rw [List.length_drop];omega)
   have step:ji (n:Int) b ((a:Int),((n - (j+1):Nat):Int),acc)=(cond ((qg (b.drop a)).2.2 != 0) (some (.inr (.inl (qg (b.drop a)).2.2))) (some (.inl ((IntKind.i64.wrap ((a:Int)+(qg (b.drop a)).2.1)),((n - j:Nat):Int),(acc++[(qg (b.drop a)).1]))))):=by
    unfold ji
    simp only
    rw [aZ (by split<;>omega),cond_true,hs,Option.bind_some,ht,Option.bind_some,jK (by unfold dh;simp;omega),bU (x:=((n - (j+1):Nat):Int)+1) (by omega) (by omega),show ((n - (j+1):Nat):Int)+1=((n - j:Nat):Int) by omega]
   rcases oW (b.drop a) with e | e | ⟨v,kk,e,h1,h2,h3,h4⟩
   ·rw [e] at step
    refine ⟨.inl 3,by simp only [bT,step];rfl, ?_⟩
    simp only [gP,fP,jZ,e]
    rfl
   ·rw [e] at step
    refine ⟨.inl 2,by simp only [bT,step];rfl, ?_⟩
    simp only [gP,fP,jZ,e]
    rfl
   ·rw [List.length_drop] at h4
    rw [e] at step
    simp only at step
    rw [gL rfl,cond_false,bU (by omega) (by omega),show (a:Int)+(kk:Int)=((a+kk:Nat):Int) by omega] at step
    obtain ⟨r',i1,i2⟩:=ih k (a+kk) (acc++[(v:Int)]) (by omega) (by omega) (by simp;omega) (by omega)
    refine ⟨r',by simp only [bT,step];exact i1, ?_⟩
    have hp:jZ (b.drop a)=.inr ((v:Int),b.drop (a+kk)):=by
     unfold jZ
     rw [e]
     simp [List.drop_drop]
    simp only [gP,fP,hp]
    cases hq:gP jZ j (b.drop (a+kk)) with
    | inl er=>rw [hq] at i2;exact i2
    | inr y =>
     obtain ⟨l,r⟩:=y
     rw [hq] at i2
     obtain ⟨c,c1,c2,c3⟩:=i2
     exact ⟨c,by rw [c1];simp,c2,c3⟩
 obtain ⟨r',h1,h2⟩:=key n KK 0 [] (Nat.le_refl _) (by omega) (by simp) (by have:=rO;omega)
 rw [Nat.sub_self] at h1
 unfold zi Jk
 rw [show ((0:Int),(0:Int),([]:List Int))=(((0:Nat):Int),((0:Nat):Int),[]) from rfl,h1,Option.bind_some]
 rw [List.drop_zero] at h2
 cases hq:gP jZ n b with
 | inl e =>
  rw [hq] at h2
  subst h2
  rfl
 | inr y =>
  obtain ⟨l,r⟩:=y
  rw [hq] at h2
  obtain ⟨c,rfl,c2,rfl⟩:=h2
  simp only [jI,cond_false,JE,List.nil_append]
  unfold Dq
  rw [uK b c c2,Option.bind_some,CX (by rw [List.length_drop];omega),Option.bind_some]
theorem Pj (b:List UInt8) (hb:b.length < 900000000):sS b=some (match yA b with
  | .inl e=>([],[],e)
  | .inr (s,r)=>(s,r,0)):=by
 unfold sS yA
 rw [Sg b (by omega),Option.bind_some]
 rcases oW b with e | e | ⟨v,k,e,h1,h2,h3,h4⟩
 ·rw [e];rfl
 ·rw [e];rfl
 ·rw [e]
  simp only [if_true,Int.toNat_natCast]
  rw [gL rfl,cond_false,bU (x:=(b.length:Int) - (k:Int)) (by omega) (by omega)]
  by_cases c:v≤b.length - k
  ·rw [aV (by omega),cond_false,if_pos c,bU (by omega) (by omega),show (k:Int)+(v:Int)=((k+v:Nat):Int) by omega,uK b (k+v) (by omega),Option.bind_some]
   unfold Dq
   rw [CX (by rw [List.length_drop];omega),Option.bind_some,adV b k (k+v) (by omega) (by omega),Option.bind_some,Nat.add_sub_cancel_left]
  ·rw [aZ (by omega),cond_true,if_neg c]
theorem Xg (b:List UInt8) (n:Nat) (hb:b.length < 900000000) (hn:n < 1000000):zM b (n:Int)=some (match gP yA n b with
  | .inl e=>([],[],e)
  | .inr (l,r)=>(l,r,0)):=by
 obtain ⟨c,h⟩:=ag6 (p:=yA) (E:=Int⊕(List UInt8×List (List UInt8))) n (by omega) (kJ (n:Int)) (λi b acc=>(b,(i:Int),acc)) (λ_ e=>.inl e) (λb acc=>.inr (b,acc)) b.length UC
  (λi b' acc hi hb' ha=>by
   unfold kJ
   simp only
   rw [aZ (by omega),cond_true,Pj b' (by omega),Option.bind_some]
   cases hp:yA b' with
   | inl e =>
    have he:e≠0:=by rcases Gu _ _ hp with rfl | rfl<;>omega
    simp only
    rw [qZ he,cond_true]
   | inr y =>
    obtain ⟨x,r⟩:=y
    simp only
    rw [gL rfl,cond_false,jK (by unfold dh;simp;omega),bU (by omega) (by omega),cO])
  (λb' acc ha=>by
   unfold kJ
   simp only
   rw [aV (by omega),cond_false]) n KK b [] (Nat.le_refl _) (Nat.le_refl _) (by simp) (by have:=rO;omega)
 rw [Nat.sub_self] at h
 unfold zM Gf
 rw [show ((b,(0:Int),[]):List UInt8×Int×List (List UInt8))=(b,((0:Nat):Int),[]) from rfl,h,Option.bind_some]
 cases gP yA n b with
 | inl e=>rfl
 | inr y=>rfl
end Go.Proofs.YtohoggieaanllaaGreat
