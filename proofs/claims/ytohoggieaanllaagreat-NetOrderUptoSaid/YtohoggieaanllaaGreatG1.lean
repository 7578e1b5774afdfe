import Derived.Test.YtohoggieaanllaaGreatS0
import Derived.Test.YtohoggieaanllaaGreatT3
import Derived.Test.YtohoggieaanllaaGreatY6
set_option linter.all false
set_option linter.unusedSimpArgs false
namespace Go.Proofs.YtohoggieaanllaaGreat
theorem Xk (c:Int) (s:aT) (h:s.S_.L.length < 1000000):kE c s=some (lastOf c s.S_.L):=by
 unfold kE sZ lastOf
 rw [adh c s.S_.L h (jw s c) (λ_=>rfl),Option.bind_some]
 cases s.S_.L.find? (λy=>y.Client==c)<;>rfl
theorem ahd (x:ak) (s:aT) (h:s.S_.L.length < 1000):kF x s=some ((Mx x s.S_.L).1,⟨s.T,⟨(Mx x s.S_.L).2⟩,s.ID,s.Epoch⟩):=by
 have e:=Xi x s.S_.L h
 have e3:kF x s=(jo x s.S_.L).bind λr=>some (r.1,⟨s.T,⟨r.2⟩,s.ID,s.Epoch⟩):=by
  unfold kF jo
  rw [Xk _ _ (by omega),Xh _ _ (by omega),Option.bind_some,Option.bind_some]
  have j0:nU x (lastOf x.Client s.S_.L) s=iV x (lastOf x.Client s.S_.L) s.S_.L:=rfl
  have j3:tC s x (false,0,[])=kr s.S_.L x (false,0,[]):=rfl
  rw [j0,j3,aaA x _ h]
  cases iV x (lastOf x.Client s.S_.L) s.S_.L with
  | none=>rfl
  | some r =>
   cases r with
   | inl _=>rfl
   | inr _ =>
    simp only [Option.bind_some,jI,cond_false]
    have j4:nV (s.S_.L.foldl (xw x) (false,[])) x s=iW (s.S_.L.foldl (xw x) (false,[])) x s.S_.L:=rfl
    rw [j4]
    cases iW (s.S_.L.foldl (xw x) (false,[])) x s.S_.L<;>rfl
 rw [e3,e]
 rfl
theorem adl (s:dF):lu s=some (iy s.b_):=by
 unfold lu qO
 have key:bT (fT s) KK (0,[])=some (iy s.b_):=by
  refine qK (λi=>((i:Int),(s.b_.l.Rn.take i).filter (λx=>decide (0 < x.Seq)))) 4 _ (λi hi=>?_) ?_ (by omega)
  ·have hl:i < s.b_.l.Rn.length:=by simpa [A4.Rn] using hi
   have h5:(s.b_.l.Rn.take (i+1)).filter (λx=>decide (0 < x.Seq))=(s.b_.l.Rn.take i).filter (λx=>decide (0 < x.Seq))++[s.b_.l.Rn[i]].filter (λx=>decide (0 < x.Seq)):=by
    rw [List.take_succ_eq_append_getElem hl,List.filter_append]
   have h6:((s.b_.l.Rn.take i).filter (λx=>decide (0 < x.Seq))).length≤4:=Nat.le_trans (List.length_filter_le _ _) (by simp;omega)
   unfold fT
   simp only
   rw [aZ (by omega),cond_true,show [s.b_.l.a0,s.b_.l.a1,s.b_.l.a2,s.b_.l.a3]=s.b_.l.Rn from rfl,dI hl,Option.bind_some,h5,bU (by omega) (by omega),cO]
   by_cases q:s.b_.l.Rn[i].Seq > 0
   ·rw [aZ q,cond_true,zN (by rw [List.length_append];simp only [List.length_singleton];omega),List.filter_cons_of_pos (by simpa using q)];rfl
   ·rw [aV q,cond_false,List.filter_cons_of_neg (by simpa using q)];simp
  ·unfold fT
   rfl
 rw [key]
 rfl
theorem aju (o:bD) (s:aT) (h:OkT s.T.L):yc o s=some ((doP o s.T.L).1,⟨⟨(doP o s.T.L).2⟩,s.S_,s.ID,s.Epoch⟩):=by
 obtain ⟨⟨L⟩,S,i,e⟩:=s
 simp only at h
 have f3:yF o.Key ⟨⟨L⟩,S,i,e⟩=oF o.Key L:=rfl
 have hl:=h.2
 have pl:=UD L o.Key
 unfold yc vZ wh doP
 simp only
 rw [Lr,Option.bind_some,f3,aqj L o.Key (by omega)]
 cases hr:qU o
 ·simp
 have hk:=Sm hr
 simp only [Bool.not_true,cond_false,Option.bind_some,Bool.true_eq_false,if_false,ahb]
 rw [adW L _ pl]
 by_cases k1:o.Kind=1
 ·have k2:¬ o.Kind=2:=by omega
  rw [aZ k1,cond_true,if_neg k2,if_pos k1]
  cases hd:Ch L o.Key
  ·simp
  ·rw [V9 (sD hd)];simp
 rw [aV k1,cond_false]
 by_cases k2:o.Kind=2
 ·rw [aZ k2,cond_true,if_pos k2]
  have lt:(L.take (place L o.Key)).length≤8:=by rw [List.length_take];omega
  cases hd:Ch L o.Key
  ·simp only [Bool.not_false,cond_true]
   by_cases l8:L.length=8
   ·rw [aZ (by omega),if_neg (by simp),if_pos l8];rfl
   ·rw [aV (by omega),if_neg (by simp),if_neg l8,cond_false,Option.bind_some]
    simp only [jI,cond_false,Option.bind_some]
    rw [Ci (by omega),Ci (by rw [List.length_append];simp only [List.length_singleton];omega),uK L _ pl,Option.bind_some,Ci (by simp only [List.length_append,List.length_singleton,List.length_drop];omega)]
    unfold MK
    rw [Int.toNat_natCast,List.append_assoc]
    rfl
  ·have c:=sD hd
   simp only [Bool.not_true,cond_false,cond_true,Option.bind_some,jI,if_true]
   rw [Ci (by omega),Ci (by rw [List.length_append];simp only [List.length_singleton];omega),bU (by omega) (by omega),cO,uK L _ (by omega),Option.bind_some,Ci (by simp only [List.length_append,List.length_singleton,List.length_drop];omega),axx L _ _ c]
 rw [aV k2,cond_false,if_neg k2]
 by_cases k3:o.Kind=3
 ·rw [aZ k3,cond_true]
  cases hd:Ch L o.Key
  ·simp
  ·have c:=sD hd
   have k4:¬ o.Kind=4:=by omega
   simp only [Bool.not_true,cond_false,Option.bind_some,Bool.true_eq_false,if_false]
   rw [if_neg k1,if_neg k4,Ci (by rw [List.length_take];omega),bU (by omega) (by omega),cO,uK L _ (by omega),Option.bind_some,Ci (by simp only [List.length_append,List.length_take,List.length_drop];omega)]
   unfold GD
   rw [Int.toNat_natCast,Int.toNat_natCast]
 rw [aV k3,cond_false]
 have k4:o.Kind=4:=by omega
 cases hd:Ch L o.Key
 ·simp
 have hp:=V9 (sD hd)
 simp only [Bool.not_true,cond_false,Bool.true_eq_false,if_false]
 rw [if_neg k1,if_pos k4,hp,Option.bind_some,Option.bind_some,Option.bind_some,aeP hd,Ci (by omega),Int.toNat_natCast]
 by_cases q:(pAt L o.Key).Value=o.Old
 ·rw [if_pos q];simp [q]
 ·have:((pAt L o.Key).Value==o.Old)=false:=by simpa using q
  rw [if_neg q,this];rfl
def vJ (s:dF):aT:=⟨⟨s.Table.l⟩,⟨iy s.b_⟩,s.ID,s.Epoch⟩
def OkS (s:dF):Prop:=OkT s.Table.l∧GoodS s.b_
def jQ (r:bn):Prop:=0≤r.Client∧r.Client < 4∧1≤r.Seq∧r.Seq≤4611686018427387903∧qU r.Op=true
instance (r:bn):Decidable (jQ r):=by unfold jQ;infer_instance
theorem Sn (r:bn):zD r=some (decide (jQ r)):=by
 unfold zD
 by_cases h1:r.Client≥0
 case neg=>rw [aV h1,aV (show ¬ jQ r by unfold jQ;omega)];rfl
 rw [aZ h1,cond_true]
 by_cases h2:r.Client < 4
 case neg=>rw [aV h2,aV (show ¬ jQ r by unfold jQ;omega)];rfl
 rw [aZ h2,cond_true]
 by_cases h3:r.Seq≥1
 case neg=>rw [aV h3,aV (show ¬ jQ r by unfold jQ;omega)];rfl
 rw [aZ h3,cond_true]
 by_cases h4:r.Seq≤4611686018427387903
 case neg=>rw [aV h4,aV (show ¬ jQ r by unfold jQ;omega)];rfl
 rw [aZ h4,cond_true,Lr,Option.bind_some]
 cases h5:qU r.Op
 ·rw [aV (show ¬ jQ r by unfold jQ;rw [h5];simp)]
 ·rw [aZ (show jQ r by unfold jQ;exact ⟨by omega,by omega,by omega,by omega,h5⟩)]
def Yc (y:ak):Bool:=(decide (y.Answer.Why=0) || decide (y.Answer.Why=4) || decide (y.Answer.Why=5) || decide (y.Answer.Why=6))&&decide (y.Answer.Value.length≤16)&&decide (y.Seq≤4611686018427387903)
def ajv (p:au):Bool:=decide (p.Key.length < 1) || decide (8 < p.Key.length) || decide (16 < p.Value.length)
def OkP (L:List au):Prop:=∀ p∈L,ajv p=false
theorem aaF {o:bD} (h:qU o=true):ajv ⟨o.Key,o.Value⟩=false:=by
 unfold qU at h
 simp only [Bool.and_eq_true,decide_eq_true_eq] at h
 unfold ajv
 simp only
 rw [aV (show ¬ o.Key.length < 1 by omega),aV (show ¬ 8 < o.Key.length by omega),aV (show ¬ 16 < o.Value.length by omega)]
 rfl
theorem aqm {L:List au} (h:OkP L) (o:bD):OkP (doP o L).2:=by
 have st:qU o=true→OkP (L.set (place L o.Key) ⟨o.Key,o.Value⟩):=λhr p hp=>by
  rcases List.mem_or_eq_of_mem_set hp with q | rfl
  ·exact h p q
  ·exact aaF hr
 unfold doP
 split
 ·exact h
 next hr =>
 have hr:qU o=true:=by simpa using hr
 split
 ·split
  ·exact st hr
  ·split
   ·exact h
   ·intro p hp
    simp only [MK] at hp
    rcases List.mem_append.1 hp with q | q
    ·exact h p (List.mem_of_mem_take q)
    ·rcases List.mem_cons.1 q with rfl | q
     ·exact aaF hr
     ·exact h p (List.mem_of_mem_drop q)
 split
 ·exact h
 split
 ·exact h
 split
 ·split
  ·exact st hr
  ·exact h
 ·intro p hp
  simp only [GD] at hp
  rcases List.mem_append.1 hp with q | q
  ·exact h p (List.mem_of_mem_take q)
  ·exact h p (List.mem_of_mem_drop q)
theorem aqn (l:List au):∀ L,OkP L→OkP (ofP L l):=by
 induction l with
 | nil=>exact λL h=>h
 | cons x l ih=>exact λL h=>ih _ (aqm h _)
end Go.Proofs.YtohoggieaanllaaGreat
