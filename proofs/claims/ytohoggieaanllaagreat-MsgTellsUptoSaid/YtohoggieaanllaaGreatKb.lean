import Derived.Test.YtohoggieaanllaaGreatN2
import Derived.Test.YtohoggieaanllaaGreatK5
set_option linter.all false
set_option linter.unusedSimpArgs false
namespace Go.Proofs.YtohoggieaanllaaGreat
theorem ah1 (x:aC) (h1:x.Pairs.length < 1000000) (h2:x.dN.length < 1000000):∃ b,wm x=some b∧uF x=some b:=by
 unfold wm uF
 have j0:wh x=lq x:=rfl
 have jj:lq x=some (.inl ())∨lq x=some (.inr ()):=by
  unfold lq
  cases decide (x.dR < 0)<;>cases decide (x.dR≥6)<;>cases decide (x.Epoch < 1)<;>cases decide (x.Epoch > 1099511627776)<;>simp
 rw [j0]
 rcases jj with jj | jj<;>rw [jj,Option.bind_some]
 ·exact ⟨false,rfl,rfl⟩
 simp only [jO,cond_false,Option.bind_some]
 obtain ⟨s,e1,e2,e3,e4,e5,e6⟩:=aqt x (by omega) (by omega)
 have hT:=e2.1.2
 have hS:=Md s.cZ
 have j1:oz s x=some (decide (s.Table.l=x.Pairs∧iP s.cZ=x.dN)):=by
  unfold oz qK
  rw [CY (by omega),Option.bind_some,ajY _ _ (by omega),Option.bind_some,adW,Option.bind_some,equalS _ _ (by omega),Option.bind_some]
  by_cases a:s.Table.l=x.Pairs<;>by_cases b:iP s.cZ=x.dN<;>simp [a,b]
 rw [e1,Option.bind_some,j1,Option.bind_some,PW _ h2,e6]
 obtain ⟨p,p1,p2⟩:=Mg x.Pairs ajX h1 (jM x) (λ_=>()) (λi hi=>by
  unfold jM ajX
  rw [bf (by omega),cond_true,dP hi]
  simp only [Option.bind_some]
  rw [bM (by omega) (by omega),dA]
  by_cases a:x.Pairs[i].Key.length < 1
  ·rw [bf (by omega),bf a];rfl
  rw [aT (by omega),aT a,cond_false]
  by_cases b:8 < x.Pairs[i].Key.length
  ·rw [bf (by omega),bf b];rfl
  rw [aT (by omega),aT b,cond_false]
  by_cases c:16 < x.Pairs[i].Value.length
  ·rw [bf (by omega),bf c];rfl
  rw [aT (by omega),aT c];rfl) (by
  unfold jM
  rw [aT (by omega),cond_false])
 obtain ⟨q,q1,q2⟩:=Mg x.dN (λy=>!YV y) h2 (jN x) (λ_=>()) (λi hi=>by
  unfold jN xw YV
  rw [bf (by omega),cond_true,dP hi,Option.bind_some]
  simp only [ahO]
  rw [bM (by omega) (by omega),dA]
  by_cases e:x.dN[i].Answer.Value.length≤16<;>by_cases f:x.dN[i].Seq≤4611686018427387903 <;>
   by_cases a:x.dN[i].Answer.Why=0<;>by_cases b:x.dN[i].Answer.Why=4<;>by_cases c:x.dN[i].Answer.Why=5<;>by_cases d:x.dN[i].Answer.Why=6 <;>
   simp [a,b,c,d,e,f,show ((16:Int) < (x.dN[i].Answer.Value.length:Int))↔¬ x.dN[i].Answer.Value.length≤16 by omega,show (4611686018427387903 < x.dN[i].Seq)↔¬ x.dN[i].Seq≤4611686018427387903 by omega]) (by
  unfold jN
  rw [aT (by omega),cond_false])
 unfold CF CG
 rw [p1,Option.bind_some,q1]
 have fin:qI x ⟨s.ID,s.Epoch,s.Table.l,iP s.cZ⟩=some (decide (s.Table.l=x.Pairs∧iP s.cZ=x.dN)):=by
  rw [au7 _ _ h1 h2]
  congr 1
  rw [decide_eq_decide]
  constructor
  ·rintro ⟨_,_,a,b⟩;exact ⟨a.symm,b.symm⟩
  ·rintro ⟨a,b⟩;exact ⟨e4.symm,e5.symm,a.symm,b.symm⟩
 rcases p2 with ⟨p2,_,rfl⟩ | ⟨p2,rfl⟩
 ·have:¬ (s.Table.l=x.Pairs∧iP s.cZ=x.dN):=by
   rintro ⟨a,_⟩
   have ok:=aqs x.Pairs [] (λp hp=>by simp at hp)
   rw [← e3,a] at ok
   rw [List.any_eq_true] at p2
   obtain ⟨y,y1,y2⟩:=p2
   rw [ok y y1] at y2
   cases y2
  rw [aT this]
  exact ⟨false,rfl,rfl⟩
 simp only [jO,cond_false,Option.bind_some]
 rcases q2 with ⟨q2,_,rfl⟩ | ⟨q2,rfl⟩
 ·rw [q2]
  simp only [jO,cond_true,Bool.not_true]
  exact ⟨false,by cases decide (s.Table.l=x.Pairs∧iP s.cZ=x.dN)<;>rfl,rfl⟩
 ·rw [q2]
  simp only [jO,cond_false,Bool.not_false]
  rw [afr _ (by simp only [wJ];omega) (by simp only [wJ];omega),Option.bind_some]
  show ∃ b,_=some b∧(qI x ⟨s.ID,s.Epoch,s.Table.l,iP s.cZ⟩).bind _=some b
  rw [fin]
  exact ⟨decide (s.Table.l=x.Pairs∧iP s.cZ=x.dN),by cases decide (s.Table.l=x.Pairs∧iP s.cZ=x.dN)<;>rfl,rfl⟩
theorem amh (x:aC) (h1:x.Pairs.length < 1000000) (h2:x.dN.length < 1000000):uF x=some (decide (CZ x)):=by
 obtain ⟨b,b1,b2⟩:=ah1 x h1 h2
 rw [ahR x h1 h2] at b1
 rw [b2,b1]
theorem acI (r:aU):Cz r=some (decide (r=Ct)):=by
 unfold Cz
 rw [show (r.Client==0&&(r.Seq==0&&(r.Op.Kind==0&&(r.Op.Key==([]:List UInt8)&&(r.Op.Value==([]:List UInt8)&&(r.Op.Old==([]:List UInt8)&&true))))))=decide (r=Ct) from Zi r Ct]
theorem Mq (r:aU):ql r=some (nK r):=by
 unfold ql nK
 rw [acI,SY,Option.bind_some,Option.bind_some]
 cases decide (r=Ct)<;>rfl
theorem Mr (a:aB):tu a=some (su a):=B_ a
theorem Y0 (x:aC):Fg x=some (abp x):=abq x
theorem Hr (x:aC) (h1:x.Pairs.length < 1000000) (h2:x.dN.length < 1000000):sJ x=some (kH x):=by
 unfold sJ kH
 rw [Y0,amh x h1 h2,Option.bind_some,Option.bind_some]
 cases abp x<;>rfl
theorem acJ (b:List UInt8) (r:aU) (hb:b.length < 800000000):KL b r=some (if nK r then b++abn r else []):=by
 unfold KL
 rw [Mq,Option.bind_some]
 cases h:nK r
 ·rfl
 obtain ⟨h1,h2,h3,h4,h5,h6⟩:=Mh h
 have hl:=abo h
 have hp:=jE b (l:=[r.Client,r.Seq,r.Op.Kind]) (λx hx=>by
  simp only [List.mem_cons,List.not_mem_nil,or_false] at hx
  rcases hx with rfl | rfl | rfl<;>assumption)
 unfold abn at hl
 rw [List.length_append] at hl
 simp only [Bool.not_true,cond_false,if_true]
 rw [nS _ _ (by simp only [List.length_cons,List.length_nil];omega),Option.bind_some,hp,P8 _ _ (by rw [List.length_append];omega) (by simp),Option.bind_some]
 unfold abn
 rw [List.append_assoc]
theorem RI (b:List UInt8) (a:aB) (hb:b.length < 800000000):xB b a=some (if su a then b++YW a else []):=by
 unfold xB
 rw [Mr,Option.bind_some]
 cases h:su a
 ·rfl
 obtain ⟨h1,h2⟩:=Mi h
 have hl:=Vi h
 have hp:=jE b (l:=[a.Why]) (λx hx=>by
  rw [List.mem_singleton.1 hx]
  exact h1)
 unfold YW at hl
 rw [List.length_append] at hl
 simp only [Bool.not_true,cond_false,if_true]
 rw [nS _ _ (by simp only [List.length_cons,List.length_nil];omega),Option.bind_some,hp,P8 _ _ (by simp only [List.flatMap_cons,List.flatMap_nil,List.append_nil,List.length_append];omega) (by simp),Option.bind_some]
 unfold YW
 simp
theorem Y1 (b:List UInt8) (x:aC) (hb:b.length < 700000000) (h1:x.Pairs.length < 1000000) (h2:x.dN.length < 1000000):D5 b x=some (if kH x then b++aj0 x else []):=by
 unfold D5
 rw [Hr x h1 h2,Option.bind_some]
 cases h:kH x
 ·rfl
 obtain ⟨g1,g2,g3,g4,g5,g6⟩:=FJ h
 obtain ⟨c1,c2,c3⟩:=Ta h
 have a1:=kR _ g1
 have a2:=kR _ g2
 have a3:=kR (x.Pairs.length:Int) (by unfold vG;omega)
 have a4:=kR (x.dN.length:Int) (by unfold vG;omega)
 have hp:=jE b (l:=[x.dR,x.Epoch,(x.Pairs.length:Int)]) (λz hz=>by
  simp only [List.mem_cons,List.not_mem_nil,or_false] at hz
  rcases hz with rfl | rfl | rfl
  ·exact g1
  ·exact g2
  ·unfold vG;omega)
 simp only [Bool.not_true,cond_false,if_true]
 rw [nS _ _ (by simp only [List.length_cons,List.length_nil];omega),Option.bind_some,hp]
 generalize hB:b++[x.dR,x.Epoch,(x.Pairs.length:Int)].flatMap eN=B at *
 have hBl:B.length≤b.length+27:=by
  rw [← hB]
  simp only [List.flatMap_cons,List.flatMap_nil,List.length_append,List.length_nil]
  omega
 have l0:Bf x (B,0)=some (B++x.Pairs.flatMap sw):=by
  have e0:(B,(0:Int))=(B++(x.Pairs.take 0).flatMap sw,((0:Nat):Int)):=by simp
  unfold Bf
  rw [e0]
  refine ng (λi=>(B++(x.Pairs.take i).flatMap sw,(i:Int))) x.Pairs.length _ (λi hi=>?_) ?_ (by omega)
  ·have h5:(x.Pairs.take (i+1)).flatMap sw=(x.Pairs.take i).flatMap sw++sw x.Pairs[i]:=by
    rw [List.take_succ_eq_append_getElem hi,List.flatMap_append]
    simp
   have h6:=FT sw x.Pairs i
   have h7:=Xc (g5 _ (List.getElem_mem hi))
   unfold sw at h7
   rw [List.length_append] at h7
   unfold nY
   simp only
   rw [bf (by omega),cond_true,dP hi,Option.bind_some,Option.bind_some,P8 _ _ (by simp only [List.length_append,List.flatMap_cons,List.flatMap_nil,List.length_nil];omega) (by simp),Option.bind_some,bM (by omega) (by omega),dA,h5]
   unfold sw
   simp
  ·unfold nY
   simp only
   rw [aT (by omega),cond_false,List.take_length]
 rw [l0,Option.bind_some]
 have hp2:=jE (B++x.Pairs.flatMap sw) (l:=[(x.dN.length:Int)]) (λz hz=>by
  rw [List.mem_singleton.1 hz]
  unfold vG
  omega)
 rw [nS _ _ (by simp only [List.length_append,List.length_cons,List.length_nil];omega),Option.bind_some,hp2]
 generalize hD:B++x.Pairs.flatMap sw++[(x.dN.length:Int)].flatMap eN=D at *
 have hDl:D.length≤b.length+600:=by
  rw [← hD]
  simp only [List.flatMap_cons,List.flatMap_nil,List.length_append,List.length_nil]
  omega
 have l1:Bg x (D,0)=some (D++x.dN.flatMap uy):=by
  have e0:(D,(0:Int))=(D++(x.dN.take 0).flatMap uy,((0:Nat):Int)):=by simp
  unfold Bg
  rw [e0]
  refine ng (λi=>(D++(x.dN.take i).flatMap uy,(i:Int))) x.dN.length _ (λi hi=>?_) ?_ (by omega)
  ·have h5:(x.dN.take (i+1)).flatMap uy=(x.dN.take i).flatMap uy++uy x.dN[i]:=by
    rw [List.take_succ_eq_append_getElem hi,List.flatMap_append]
    simp
   have h6:=FT uy x.dN i
   obtain ⟨q1,q2,q3⟩:=g6 _ (List.getElem_mem hi)
   have h7:=Xd ⟨q1,q2,q3⟩
   unfold uy at h7
   rw [List.length_append] at h7
   have hp3:=jE (D++(x.dN.take i).flatMap uy) (l:=[x.dN[i].Client,x.dN[i].Seq]) (λz hz=>by
    simp only [List.mem_cons,List.not_mem_nil,or_false] at hz
    rcases hz with rfl | rfl<;>assumption)
   unfold nZ
   simp only
   rw [bf (by omega),cond_true,dP hi,Option.bind_some,Option.bind_some,nS _ _ (by simp only [List.length_append,List.length_cons,List.length_nil];omega),Option.bind_some,hp3,Option.bind_some,RI _ _ (by simp only [List.length_append];omega),q3,Option.bind_some,bM (by omega) (by omega),dA,h5]
   unfold uy
   simp
  ·unfold nZ
   simp only
   rw [aT (by omega),cond_false,List.take_length]
 rw [l1,Option.bind_some,← hD,← hB]
 unfold aj0
 simp
abbrev uD:=ak
def pX {α:Type} (f:uD→Option (α×uD)) (p:Pr α):Prop:=∀ b e,b.length < 500000000→(e≠0→∃ x,f ⟨b,e⟩=some (x,⟨b,e⟩))∧(match p b with
 | .inl er=>∃ x s,f ⟨b,0⟩=some (x,⟨s,er⟩)∧s.length≤b.length
 | .inr (x,s)=>f ⟨b,0⟩=some (x,⟨s,0⟩))
theorem pX.seq {α β:Type} {f:uD→Option (α×uD)} {p:Pr α} {g:α→uD→Option (β×uD)} {q:α→Pr β} (h:pX f p) (he:Err p) (hs:Shr p) (k:∀ x,pX (g x) (q x)):pX (λr=>(f r).bind λy=>g y.1 y.2) (bH p q):=by
 intro b e hb
 obtain ⟨h1,h2⟩:=h b e hb
 refine ⟨λhee=>?_, ?_⟩
 ·obtain ⟨x,hx⟩:=h1 hee
  simp only [hx,Option.bind_some]
  exact (k x b e hb).1 hee
 ·unfold bH
  cases hp:p b with
  | inl er =>
   rw [hp] at h2
   obtain ⟨x,s,hx,hl⟩:=h2
   have hne:er≠0:=by rcases he _ _ hp with rfl | rfl<;>omega
   obtain ⟨y,hy⟩:=(k x s er (by omega)).1 hne
   refine ⟨y,s, ?_,hl⟩
   simp only [hx,Option.bind_some]
   exact hy
  | inr y =>
   obtain ⟨x,s⟩:=y
   rw [hp] at h2
   have hl:=hs _ _ _ hp
   have h3:=(k x s 0 (by omega)).2
   simp only at h2 ⊢
   simp only [h2,Option.bind_some]
   cases hq:q x s with
   | inl er =>
    rw [hq] at h3
    obtain ⟨z,t,hz,ht⟩:=h3
    exact ⟨z,t,hz,by omega⟩
   | inr z =>
    rw [hq] at h3
    exact h3
theorem pX.ret {α:Type} (x:α):pX (λr=>some (x,r)) (λb=>.inr (x,b)):=λb e _=>⟨λ_=>⟨x,rfl⟩,rfl⟩
theorem qj:pX bB fO:=by
 intro b e hb
 refine ⟨λhe=>⟨0, ?_⟩, ?_⟩
 ·unfold bB
  rw [mD he]
  rfl
 ·unfold bB
  rw [gX rfl]
  simp only [cond_false]
  rw [X0 b (by omega),Option.bind_some]
  unfold Gb fO
  rcases lI b with e | e | ⟨v,k,e,_⟩<;>rw [e]
  ·exact ⟨_,_,rfl,by simp⟩
  ·exact ⟨_,_,rfl,by simp⟩
  ·rfl
theorem Y2 (b:List UInt8) (hb:b.length < 500000000):Ei b=some (match kF b with
  | .inl e=>([],[],e)
  | .inr (s,r)=>(s,r,0)):=by
 unfold Ei kF
 rw [X0 b (by omega),Option.bind_some]
 unfold Gb
 rcases lI b with e | e | ⟨v,k,e,h1,h2,h3,h4⟩
 ·rw [e];rfl
 ·rw [e];rfl
 ·rw [e]
  simp only [if_true,Int.toNat_natCast]
  rw [gX rfl,cond_false,List.length_drop]
  by_cases c:v≤b.length - k
  ·rw [aT (by omega),cond_false,if_pos c,show ((b.length - k:Nat):Int)=((b.drop k).length:Int) by rw [List.length_drop],uh (b.drop k) v (by rw [List.length_drop];omega),Option.bind_some,l5 (by simp only [List.length_drop];omega),VZ (b.drop k) v (by rw [List.length_drop];omega),Option.bind_some,List.drop_drop]
  ·rw [bf (by omega),cond_true,if_neg c]
theorem Qp:pX fE kF:=by
 intro b e hb
 refine ⟨λhe=>⟨[], ?_⟩, ?_⟩
 ·unfold fE
  rw [mD he]
  rfl
 ·unfold fE
  rw [gX rfl]
  simp only [cond_false]
  rw [Y2 b hb,Option.bind_some]
  cases kF b with
  | inl e=>exact ⟨_,_,rfl,by simp⟩
  | inr y=>rfl
theorem Ht (er e:Int) (b:List UInt8):iD er ⟨b,e⟩=some (if e=0 then ⟨b,er⟩ else ⟨b,e⟩):=by
 unfold iD
 by_cases h:e=0
 ·rw [if_pos h,xS h];rfl
 ·rw [if_neg h,uV h];rfl
theorem aj8 {α:Type} (x:α) (m:Option Bool) (c:Bool) (hm:m=some c):pX (λr=>m.bind λz=>cond (!z) ((iD 2 r).bind λy=>some (x,y)) (some (x,r))) (λb=>if c then .inr (x,b) else .inl 2):=by
 intro b e hb
 subst hm
 refine ⟨λhe=>⟨x, ?_⟩, ?_⟩
 ·simp only [Option.bind_some,Ht,if_neg he]
  cases c<;>rfl
 ·simp only [Option.bind_some,Ht,if_true]
  cases c
  ·exact ⟨x,b,rfl,Nat.le_refl _⟩
  ·rfl
theorem Ms {α β γ:Type} (p:Pr α) (q:α→Pr β) (r:β→Pr γ):bH (bH p q) r=bH p λx=>bH (q x) r:=by
 funext b
 unfold bH
 cases p b<;>rfl
theorem Vr {α β:Type} (x:α) (r:α→Pr β):bH (λb=>.inr (x,b)) r=r x:=rfl
def rq6 (q:aU) (r:uD):Option (aU×uD):=(ql q).bind λz=>cond (!z) ((iD 2 r).bind λy=>some (q,y)) (some (q,r))
def rq5 (a b c:Int) (d f:List UInt8) (r:uD):=(fE r).bind λx=>rq6 ⟨a,b,⟨c,d,f,x.1⟩⟩ x.2
def rq4 (a b c:Int) (d:List UInt8) (r:uD):=(fE r).bind λx=>rq5 a b c d x.1 x.2
def rq3 (a b c:Int) (r:uD):=(fE r).bind λx=>rq4 a b c x.1 x.2
def rq2 (a b:Int) (r:uD):=(bB r).bind λx=>rq3 a b x.1 x.2
def rq1 (a:Int) (r:uD):=(bB r).bind λx=>rq2 a x.1 x.2
def rq0 (r:uD):=(bB r).bind λx=>rq1 x.1 x.2
theorem axU:uI=rq0:=rfl
theorem av4 (q:aU):pX (rq6 q) (Ag nK q):=aj8 q _ _ (Mq q)
theorem av5 (a b c:Int) (d f:List UInt8):pX (rq5 a b c d f) (bH kF λg=>Ag nK ⟨a,b,⟨c,d,f,g⟩⟩):=pX.seq (g:=λx r=>rq6 ⟨a,b,⟨c,d,f,x⟩⟩ r) Qp r_ yY λg=>av4 ⟨a,b,⟨c,d,f,g⟩⟩
theorem av6 (a b c:Int) (d:List UInt8):pX (rq4 a b c d) (bH kF λf=>bH kF λg=>Ag nK ⟨a,b,⟨c,d,f,g⟩⟩):=pX.seq (g:=λx r=>rq5 a b c d x r) Qp r_ yY λg=>av5 a b c d g
theorem av7 (a b c:Int):pX (rq3 a b c) (bH kF λd=>bH kF λf=>bH kF λg=>Ag nK ⟨a,b,⟨c,d,f,g⟩⟩):=pX.seq (g:=λx r=>rq4 a b c x r) Qp r_ yY λg=>av6 a b c g
theorem av8 (a b:Int):pX (rq2 a b) (bH fO λc=>bH kF λd=>bH kF λf=>bH kF λg=>Ag nK ⟨a,b,⟨c,d,f,g⟩⟩):=pX.seq (g:=λx r=>rq3 a b x r) qj fJ f_ λc=>av7 a b c
theorem av9 (a:Int):pX (rq1 a) (bH fO λb=>bH fO λc=>bH kF λd=>bH kF λf=>bH kF λg=>Ag nK ⟨a,b,⟨c,d,f,g⟩⟩):=pX.seq (g:=λx r=>rq2 a x r) qj fJ f_ λb=>av8 a b
theorem awc:pX uI Vk:=by
 have e:Vk=bH fO λa=>bH fO λb=>bH fO λc=>bH kF λd=>bH kF λf=>bH kF λg=>Ag nK ⟨a,b,⟨c,d,f,g⟩⟩:=by
  unfold Vk
  simp only [eH,Ms,Vr]
  rfl
 rw [e,axU]
 exact pX.seq (g:=λx r=>rq1 x r) qj fJ f_ λa=>av9 a
def ra2 (a:aB) (r:uD):Option (aB×uD):=(tu a).bind λz=>cond (!z) ((iD 2 r).bind λy=>some (a,y)) (some (a,r))
def ra1 (a:Int) (r:uD):=(fE r).bind λx=>ra2 ⟨a,x.1⟩ x.2
def ra0 (r:uD):=(bB r).bind λx=>ra1 x.1 x.2
theorem axV:jU=ra0:=rfl
theorem awd (a:aB):pX (ra2 a) (Ag su a):=aj8 a _ _ (Mr a)
theorem awe (a:Int):pX (ra1 a) (bH kF λs=>Ag su ⟨a,s⟩):=pX.seq (g:=λx r=>ra2 ⟨a,x⟩ r) Qp r_ yY λg=>awd ⟨a,g⟩
theorem aqH:pX jU PX:=by
 rw [axV]
 exact pX.seq (g:=λx r=>ra1 x r) qj fJ f_ λa=>awe a
end Go.Proofs.YtohoggieaanllaaGreat
