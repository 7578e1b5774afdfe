import Derived.Test.YtohoggieaanllaaGreatN1
import Derived.Test.YtohoggieaanllaaGreatK1
import Derived.Test.YtohoggieaanllaaGreatY7
set_option linter.all false
set_option linter.unusedSimpArgs false
namespace Go.Proofs.YtohoggieaanllaaGreat
theorem azv (b:List UInt8) (l:List Int) (h:b.length+10 * l.length < 1000000000):GN b l=some (Q7 b l):=qx b l h
theorem jE (b:List UInt8) {l:List Int} (h:∀ x∈l,vG x):Q7 b l=b++l.flatMap eN:=by
 unfold Q7
 rw [if_pos (List.all_eq_true.2 λx hx=>by have:=h x hx;simp [LD];exact this)]
 rfl
theorem W_ (s:List UInt8) (h:okS s):(eT s).length≤s.length+9:=by
 have:=Oc h
 unfold eT
 rw [List.length_append]
 omega
theorem ahJ (l:List (List UInt8)) (i:Nat):((l.take i).flatMap eT).length≤(l.flatMap eT).length:=by
 rw [← List.take_append_drop i l,List.flatMap_append,List.length_append,List.take_append_drop]
 omega
theorem al5 (b:List UInt8) (l:List (List UInt8)) (h:b.length+(l.flatMap eT).length < 900000000) (hl:l.length < 1000000000) (f:Int×List UInt8→Option ((Int×List UInt8)⊕(List UInt8)))
  (hf:∀ s5,f s5=cond (decide (s5.1 < (l.length:Int))) ((bV l s5.1).bind λ(x6:List UInt8)=>(GN s5.2 ([(x6.length:Int)])).bind λ(x7:List UInt8)=>gd (dx 1 (x7++x6).length) (some (.inl ((IntKind.i64.wrap (s5.1+1)),(x7++x6))))) (some (.inr s5.2))) :
  bQ f KK (0,b)=some (b++l.flatMap eT):=by
 have e0:((0:Int),b)=(((0:Nat):Int),b++(l.take 0).flatMap eT):=by simp
 rw [e0]
 refine ng (λi=>((i:Int),b++(l.take i).flatMap eT)) l.length _ (λi hi=>?_) ?_ (by omega)
 ·have h5:(l.take (i+1)).flatMap eT=(l.take i).flatMap eT++eT l[i]:=by
   rw [List.take_succ_eq_append_getElem hi,List.flatMap_append]
   simp
  have h6:=ahJ l (i+1)
  rw [h5,List.length_append] at h6
  have h7:(eT l[i]).length=(Es l[i].length).length+l[i].length:=by unfold eT;rw [List.length_append]
  rw [hf]
  simp only
  rw [bf (by omega),cond_true,dP hi,Option.bind_some,azv _ _ (by simp only [List.length_append,List.length_singleton];omega),Option.bind_some,adh _ (by omega),
   l5 (by simp only [List.length_append];omega),bM (by omega) (by omega),dA,h5]
  unfold eT
  simp only [List.append_assoc]
 ·rw [hf]
  simp only
  rw [aT (by omega),cond_false,List.take_length]
theorem SS (b:List UInt8) (l:List (List UInt8)) (h:b.length+(l.flatMap eT).length < 900000000) (hl:l.length < 1000000000):CS b l=some (b++l.flatMap eT):=by
 unfold CS LX
 rw [l5 (by omega),al5 b l h hl (wu l) (λ_=>rfl)]
 rfl
theorem PO (b:List UInt8) (n:Nat) (hb:b.length < 900000000) (hn:n < 1000000):zN b (n:Int)=some (match eH fO n b with
  | .inl e=>([],[],e)
  | .inr (l,r)=>(l,r,0)):=by
 have key:∀ (j:Nat) (k a:Nat) (acc:List Int),j≤n→a≤b.length→acc.length=n - j→j < k →
   ∃ r',bQ (jI (n:Int) b) k ((a:Int),((n - j:Nat):Int),acc)=some r'∧(match eH fO j (b.drop a) with
    | .inl e=>r'=.inl e
    | .inr (l,r)=>∃ c:Nat,r'=.inr ((c:Int),acc++l)∧c≤b.length∧r=b.drop c):=by
  intro j
  induction j with
  | zero =>
   intro k a acc _ ha hl hk
   obtain ⟨k,rfl⟩:∃ i,k=i+1:=⟨k - 1,by omega⟩
   have e:jI (n:Int) b ((a:Int),((n - 0:Nat):Int),acc)=some (.inr (.inr ((a:Int),acc))):=by
    unfold jI
    simp only
    rw [aT (by split<;>omega),cond_false]
   refine ⟨_,by simp only [bQ,e];rfl, ?_⟩
   simp only [eH]
   exact ⟨a,by simp,ha,rfl⟩
  | succ j ih =>
   intro k a acc hj ha hl hk
   obtain ⟨k,rfl⟩:∃ i,k=i+1:=⟨k - 1,by omega⟩
   have hs:MF b (a:Int) (b.length:Int)=some (b.drop a):=uh b a ha
   have ht:=SQ (b.drop a) (by rw [List.length_drop];omega)
   have step:jI (n:Int) b ((a:Int),((n - (j+1):Nat):Int),acc)=(cond ((nE (b.drop a)).2.2 != 0) (some (.inr (.inl (nE (b.drop a)).2.2))) (some (.inl ((IntKind.i64.wrap ((a:Int)+(nE (b.drop a)).2.1)),((n - j:Nat):Int),(acc++[(nE (b.drop a)).1]))))):=by
    unfold jI
    simp only
    rw [bf (by split<;>omega),cond_true,hs,Option.bind_some,ht,Option.bind_some,jH (by unfold dx;simp;omega),bM (x:=((n - (j+1):Nat):Int)+1) (by omega) (by omega),show ((n - (j+1):Nat):Int)+1=((n - j:Nat):Int) by omega]
   rcases lI (b.drop a) with e | e | ⟨v,kk,e,h1,h2,h3,h4⟩
   ·rw [e] at step
    refine ⟨.inl 3,by simp only [bQ,step];rfl, ?_⟩
    simp only [eH,bH,fO,e]
    rfl
   ·rw [e] at step
    refine ⟨.inl 2,by simp only [bQ,step];rfl, ?_⟩
    simp only [eH,bH,fO,e]
    rfl
   ·rw [List.length_drop] at h4
    rw [e] at step
    simp only at step
    rw [gX rfl,cond_false,bM (by omega) (by omega),show (a:Int)+(kk:Int)=((a+kk:Nat):Int) by omega] at step
    obtain ⟨r',i1,i2⟩:=ih k (a+kk) (acc++[(v:Int)]) (by omega) (by omega) (by simp;omega) (by omega)
    refine ⟨r',by simp only [bQ,step];exact i1, ?_⟩
    have hp:fO (b.drop a)=.inr ((v:Int),b.drop (a+kk)):=by
     unfold fO
     rw [e]
     simp [List.drop_drop]
    simp only [eH,bH,hp]
    cases hq:eH fO j (b.drop (a+kk)) with
    | inl er=>rw [hq] at i2;exact i2
    | inr y =>
     obtain ⟨l,r⟩:=y
     rw [hq] at i2
     obtain ⟨c,c1,c2,c3⟩:=i2
     exact ⟨c,by rw [c1];simp,c2,c3⟩
 obtain ⟨r',h1,h2⟩:=key n KK 0 [] (Nat.le_refl _) (by omega) (by simp) (by have:=kr;omega)
 rw [Nat.sub_self] at h1
 unfold zN JM
 rw [show ((0:Int),(0:Int),([]:List Int))=(((0:Nat):Int),((0:Nat):Int),[]) from rfl,h1,Option.bind_some]
 rw [List.drop_zero] at h2
 cases hq:eH fO n b with
 | inl e =>
  rw [hq] at h2
  subst h2
  rfl
 | inr y =>
  obtain ⟨l,r⟩:=y
  rw [hq] at h2
  obtain ⟨c,rfl,c2,rfl⟩:=h2
  simp only [jO,cond_false,X8,List.nil_append]
  unfold Eb
  rw [uh b c c2,Option.bind_some,l5 (by rw [List.length_drop];omega),Option.bind_some]
theorem PS (b:List UInt8) (hb:b.length < 900000000):uH b=some (match kF b with
  | .inl e=>([],[],e)
  | .inr (s,r)=>(s,r,0)):=by
 unfold uH kF
 rw [SQ b (by omega),Option.bind_some]
 rcases lI b with e | e | ⟨v,k,e,h1,h2,h3,h4⟩
 ·rw [e];rfl
 ·rw [e];rfl
 ·rw [e]
  simp only [if_true,Int.toNat_natCast]
  rw [gX rfl,cond_false,bM (x:=(b.length:Int) - (k:Int)) (by omega) (by omega)]
  by_cases c:v≤b.length - k
  ·rw [aT (by omega),cond_false,if_pos c,bM (by omega) (by omega),show (k:Int)+(v:Int)=((k+v:Nat):Int) by omega,uh b (k+v) (by omega),Option.bind_some]
   unfold Eb
   rw [l5 (by rw [List.length_drop];omega),Option.bind_some,aez b k (k+v) (by omega) (by omega),Option.bind_some,Nat.add_sub_cancel_left]
  ·rw [bf (by omega),cond_true,if_neg c]
theorem XR (b:List UInt8) (n:Nat) (hb:b.length < 900000000) (hn:n < 1000000):Ac b (n:Int)=some (match eH kF n b with
  | .inl e=>([],[],e)
  | .inr (l,r)=>(l,r,0)):=by
 obtain ⟨c,h⟩:=ahI (p:=kF) (E:=Int⊕(List UInt8×List (List UInt8))) n (by omega) (lD (n:Int)) (λi b acc=>(b,(i:Int),acc)) (λ_ e=>.inl e) (λb acc=>.inr (b,acc)) b.length yY
  (λi b' acc hi hb' ha=>by
   unfold lD
   simp only
   rw [bf (by omega),cond_true,PS b' (by omega),Option.bind_some]
   cases hp:kF b' with
   | inl e =>
    have he:e≠0:=by rcases r_ _ _ hp with rfl | rfl<;>omega
    simp only
    rw [mD he,cond_true]
   | inr y =>
    obtain ⟨x,r⟩:=y
    simp only
    rw [gX rfl,cond_false,jH (by unfold dx;simp;omega),bM (by omega) (by omega),dA])
  (λb' acc ha=>by
   unfold lD
   simp only
   rw [aT (by omega),cond_false]) n KK b [] (Nat.le_refl _) (Nat.le_refl _) (by simp) (by have:=kr;omega)
 rw [Nat.sub_self] at h
 unfold Ac GV
 rw [show ((b,(0:Int),[]):List UInt8×Int×List (List UInt8))=(b,((0:Nat):Int),[]) from rfl,h,Option.bind_some]
 cases eH kF n b with
 | inl e=>rfl
 | inr y=>rfl
end Go.Proofs.YtohoggieaanllaaGreat
