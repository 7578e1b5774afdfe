import Derived.Test.YtohoggieaanllaaGreatS0
import Derived.Test.YtohoggieaanllaaGreatT3
import Derived.Test.YtohoggieaanllaaGreatY5
set_option linter.all false
set_option linter.unusedSimpArgs false
namespace Go.Proofs.YtohoggieaanllaaGreat
theorem P9 (c:Int) (s:aM) (h:s.S_.L.length < 1000000):jo c s=some (lastOf c s.S_.L):=by
 unfold jo pV lastOf
 rw [V7 c s.S_.L h (iL s c) (λ_=>rfl),Option.bind_some]
 cases s.S_.L.find? (λy=>y.Client==c)<;>rfl
theorem ZN (x:ak) (s:aM) (h:s.S_.L.length < 1000):jq x s=some ((GJ x s.S_.L).1,⟨s.T,⟨(GJ x s.S_.L).2⟩,s.ID,s.Epoch⟩):=by
 have e:=P7 x s.S_.L h
 have e3:jq x s=(iJ x s.S_.L).bind λr=>some (r.1,⟨s.T,⟨r.2⟩,s.ID,s.Epoch⟩):=by
  unfold jq iJ
  rw [P9 _ _ (by omega),P6 _ _ (by omega),Option.bind_some,Option.bind_some]
  have j0:lI x (lastOf x.Client s.S_.L) s=iB x (lastOf x.Client s.S_.L) s.S_.L:=rfl
  have j3:pY s x (false,0,[])=jk s.S_.L x (false,0,[]):=rfl
  rw [j0,j3,TK x _ h]
  cases iB x (lastOf x.Client s.S_.L) s.S_.L with
  | none=>rfl
  | some r =>
   cases r with
   | inl _=>rfl
   | inr _ =>
    simp only [Option.bind_some,mW,cond_false]
    have j4:lJ (s.S_.L.foldl (tq x) (false,[])) x s=iD (s.S_.L.foldl (tq x) (false,[])) x s.S_.L:=rfl
    rw [j4]
    cases iD (s.S_.L.foldl (tq x) (false,[])) x s.S_.L<;>rfl
 rw [e3,e]
 rfl
theorem adO (s:bY):jM s=some (iX s.cZ):=by
 unfold jM nM
 have key:eG (fH s) KK (0,[])=some (iX s.cZ):=by
  refine qM (λi=>((i:Int),(s.cZ.l.Lb.take i).filter (λx=>decide (0 < x.Seq)))) 4 _ (λi hi=>?_) ?_ (by omega)
  ·have hl:i < s.cZ.l.Lb.length:=by simpa [A4.Lb] using hi
   have h5:(s.cZ.l.Lb.take (i+1)).filter (λx=>decide (0 < x.Seq))=(s.cZ.l.Lb.take i).filter (λx=>decide (0 < x.Seq))++[s.cZ.l.Lb[i]].filter (λx=>decide (0 < x.Seq)):=by
    rw [List.take_succ_eq_append_getElem hl,List.filter_append]
   have h6:((s.cZ.l.Lb.take i).filter (λx=>decide (0 < x.Seq))).length≤4:=Nat.le_trans (List.length_filter_le _ _) (by simp;omega)
   unfold fH
   simp only
   rw [bI (by omega),cond_true,show [s.cZ.l.a0,s.cZ.l.a1,s.cZ.l.a2,s.cZ.l.a3]=s.cZ.l.Lb from rfl,fA hl,Option.bind_some,h5,fG (by omega) (by omega),fE]
   by_cases q:s.cZ.l.Lb[i].Seq > 0
   ·rw [bI q,cond_true,yI (by rw [List.length_append];simp only [List.length_singleton];omega),List.filter_cons_of_pos (by simpa using q)];rfl
   ·rw [aZ q,cond_false,List.filter_cons_of_neg (by simpa using q)];simp
  ·unfold fH
   rfl
 rw [key]
 rfl
theorem abK (o:aY) (s:aM) (h:Z8 s.T.L):uq o s=some ((T_ o s.T.L).1,⟨⟨(T_ o s.T.L).2⟩,s.S_,s.ID,s.Epoch⟩):=by
 obtain ⟨⟨L⟩,S,i,e⟩:=s
 simp only at h
 have f3:uJ o.Key ⟨⟨L⟩,S,i,e⟩=lZ o.Key L:=rfl
 have hl:=h.2
 have pl:=NC L o.Key
 unfold uq sj su T_
 simp only
 rw [F6,Option.bind_some,f3,ahF L o.Key (by omega)]
 cases hr:nS o
 ·simp
 have hk:=LY hr
 simp only [Bool.not_true,cond_false,Option.bind_some,Bool.true_eq_false,if_false,abI]
 rw [aaH L _ pl]
 by_cases k1:o.Kind=1
 ·have k2:¬ o.Kind=2:=by omega
  rw [bI k1,cond_true,if_neg k2,if_pos k1]
  cases hd:yJ L o.Key
  ·simp
  ·rw [O5 (oW hd)];simp
 rw [aZ k1,cond_false]
 by_cases k2:o.Kind=2
 ·rw [bI k2,cond_true,if_pos k2]
  have lt:(L.take (place L o.Key)).length≤8:=by rw [List.length_take];omega
  cases hd:yJ L o.Key
  ·simp only [Bool.not_false,cond_true]
   by_cases l8:L.length=8
   ·rw [bI (by omega),if_neg (by simp),if_pos l8];rfl
   ·rw [aZ (by omega),if_neg (by simp),if_neg l8,cond_false,Option.bind_some]
    simp only [mW,cond_false,Option.bind_some]
    rw [z8 (by omega),z8 (by rw [List.length_append];simp only [List.length_singleton];omega),Ep L _ pl,Option.bind_some,z8 (by simp only [List.length_append,List.length_singleton,List.length_drop];omega)]
    unfold GU
    rw [Int.toNat_natCast,List.append_assoc]
    rfl
  ·have c:=oW hd
   simp only [Bool.not_true,cond_false,cond_true,Option.bind_some,mW,if_true]
   rw [z8 (by omega),z8 (by rw [List.length_append];simp only [List.length_singleton];omega),fG (by omega) (by omega),fE,Ep L _ (by omega),Option.bind_some,z8 (by simp only [List.length_append,List.length_singleton,List.length_drop];omega),anh L _ _ c]
 rw [aZ k2,cond_false,if_neg k2]
 by_cases k3:o.Kind=3
 ·rw [bI k3,cond_true]
  cases hd:yJ L o.Key
  ·simp
  ·have c:=oW hd
   have k4:¬ o.Kind=4:=by omega
   simp only [Bool.not_true,cond_false,Option.bind_some,Bool.true_eq_false,if_false]
   rw [if_neg k1,if_neg k4,z8 (by rw [List.length_take];omega),fG (by omega) (by omega),fE,Ep L _ (by omega),Option.bind_some,z8 (by simp only [List.length_append,List.length_take,List.length_drop];omega)]
   unfold JX
   rw [Int.toNat_natCast,Int.toNat_natCast]
 rw [aZ k3,cond_false]
 have k4:o.Kind=4:=by omega
 cases hd:yJ L o.Key
 ·simp
 have hp:=O5 (oW hd)
 simp only [Bool.not_true,cond_false,Bool.true_eq_false,if_false]
 rw [if_neg k1,if_pos k4,hp,Option.bind_some,Option.bind_some,Option.bind_some,XH hd,z8 (by omega),Int.toNat_natCast]
 by_cases q:(Z7 L o.Key).Value=o.Old
 ·rw [if_pos q];simp [q]
 ·have:((Z7 L o.Key).Value==o.Old)=false:=by simpa using q
  rw [if_neg q,this];rfl
def vQ (s:bY):aM:=⟨⟨s.Table.l⟩,⟨iX s.cZ⟩,s.ID,s.Epoch⟩
def OkS (s:bY):Prop:=Z8 s.Table.l∧GoodS s.cZ
def iY (r:aX):Prop:=0≤r.Client∧r.Client < 4∧1≤r.Seq∧r.Seq≤4611686018427387903∧nS r.Op=true
instance (r:aX):Decidable (iY r):=by unfold iY;infer_instance
theorem TP (r:aX):vI r=some (decide (iY r)):=by
 unfold vI
 by_cases h1:r.Client≥0
 case neg=>rw [aZ h1,aZ (show ¬ iY r by unfold iY;omega)];rfl
 rw [bI h1,cond_true]
 by_cases h2:r.Client < 4
 case neg=>rw [aZ h2,aZ (show ¬ iY r by unfold iY;omega)];rfl
 rw [bI h2,cond_true]
 by_cases h3:r.Seq≥1
 case neg=>rw [aZ h3,aZ (show ¬ iY r by unfold iY;omega)];rfl
 rw [bI h3,cond_true]
 by_cases h4:r.Seq≤4611686018427387903
 case neg=>rw [aZ h4,aZ (show ¬ iY r by unfold iY;omega)];rfl
 rw [bI h4,cond_true,F6,Option.bind_some]
 cases h5:nS r.Op
 ·rw [aZ (show ¬ iY r by unfold iY;rw [h5];simp)]
 ·rw [bI (show iY r by unfold iY;exact ⟨by omega,by omega,by omega,by omega,h5⟩)]
def U0 (y:ak):Bool:=(decide (y.Answer.Why=0) || decide (y.Answer.Why=4) || decide (y.Answer.Why=5) || decide (y.Answer.Why=6))&&decide (y.Answer.Value.length≤16)&&decide (y.Seq≤4611686018427387903)
def ahJ (p:au):Bool:=decide (p.Key.length < 1) || decide (8 < p.Key.length) || decide (16 < p.Value.length)
def OkP (L:List au):Prop:=∀ p∈L,ahJ p=false
theorem TQ {o:aY} (h:nS o=true):ahJ ⟨o.Key,o.Value⟩=false:=by
 unfold nS at h
 simp only [Bool.and_eq_true,decide_eq_true_eq] at h
 unfold ahJ
 simp only
 rw [aZ (show ¬ o.Key.length < 1 by omega),aZ (show ¬ 8 < o.Key.length by omega),aZ (show ¬ 16 < o.Value.length by omega)]
 rfl
theorem ahK {L:List au} (h:OkP L) (o:aY):OkP (T_ o L).2:=by
 have st:nS o=true→OkP (L.set (place L o.Key) ⟨o.Key,o.Value⟩):=λhr p hp=>by
  rcases List.mem_or_eq_of_mem_set hp with q | rfl
  ·exact h p q
  ·exact TQ hr
 unfold T_
 split
 ·exact h
 next hr =>
 have hr:nS o=true:=by simpa using hr
 split
 ·split
  ·exact st hr
  ·split
   ·exact h
   ·intro p hp
    simp only [GU] at hp
    rcases List.mem_append.1 hp with q | q
    ·exact h p (List.mem_of_mem_take q)
    ·rcases List.mem_cons.1 q with rfl | q
     ·exact TQ hr
     ·exact h p (List.mem_of_mem_drop q)
 split
 ·exact h
 split
 ·exact h
 split
 ·split
  ·exact st hr
  ·exact h
 ·intro p hp
  simp only [JX] at hp
  rcases List.mem_append.1 hp with q | q
  ·exact h p (List.mem_of_mem_take q)
  ·exact h p (List.mem_of_mem_drop q)
theorem alY (l:List au):∀ L,OkP L→OkP (UZ L l):=by
 induction l with
 | nil=>exact λL h=>h
 | cons x l ih=>exact λL h=>ih _ (ahK h _)
end Go.Proofs.YtohoggieaanllaaGreat
