import Derived.Test.YtohoggieaanllaaGreatS0
import Derived.Test.YtohoggieaanllaaGreatT3
import Derived.Test.YtohoggieaanllaaGreatY7
set_option linter.all false
set_option linter.unusedSimpArgs false
namespace Go.Proofs.YtohoggieaanllaaGreat
theorem XW (c:Int) (s:aS) (h:s.S_.L.length < 1000000):kZ c s=some (lastOf c s.S_.L):=by
 unfold kZ uM lastOf
 rw [adS c s.S_.L h (jR s c) (λ_=>rfl),Option.bind_some]
 cases s.S_.L.find? (λy=>y.Client==c)<;>rfl
theorem ahQ (x:au) (s:aS) (h:s.S_.L.length < 1000):lg x s=some ((Nf x s.S_.L).1,⟨s.T,⟨(Nf x s.S_.L).2⟩,s.ID,s.Epoch⟩):=by
 have e:=XU x s.S_.L h
 have e3:lg x s=(jL x s.S_.L).bind λr=>some (r.1,⟨s.T,⟨r.2⟩,s.ID,s.Epoch⟩):=by
  unfold lg jL
  rw [XW _ _ (by omega),XT _ _ (by omega),Option.bind_some,Option.bind_some]
  have j0:pF x (lastOf x.Client s.S_.L) s=jm x (lastOf x.Client s.S_.L) s.S_.L:=rfl
  have j3:uP s x (false,0,[])=kV s.S_.L x (false,0,[]):=rfl
  rw [j0,j3,abd x _ h]
  cases jm x (lastOf x.Client s.S_.L) s.S_.L with
  | none=>rfl
  | some r =>
   cases r with
   | inl _=>rfl
   | inr _ =>
    simp only [Option.bind_some,jO,cond_false]
    have j4:pG (s.S_.L.foldl (xX x) (false,[])) x s=jo (s.S_.L.foldl (xX x) (false,[])) x s.S_.L:=rfl
    rw [j4]
    cases jo (s.S_.L.foldl (xX x) (false,[])) x s.S_.L<;>rfl
 rw [e3,e]
 rfl
theorem adW (s:dM):l7 s=some (iP s.cZ):=by
 unfold l7 rW
 have key:bQ (gG s) KK (0,[])=some (iP s.cZ):=by
  refine ng (λi=>((i:Int),(s.cZ.l.RX.take i).filter (λx=>decide (0 < x.Seq)))) 4 _ (λi hi=>?_) ?_ (by omega)
  ·have hl:i < s.cZ.l.RX.length:=by simpa [A4.RX] using hi
   have h5:(s.cZ.l.RX.take (i+1)).filter (λx=>decide (0 < x.Seq))=(s.cZ.l.RX.take i).filter (λx=>decide (0 < x.Seq))++[s.cZ.l.RX[i]].filter (λx=>decide (0 < x.Seq)):=by
    rw [List.take_succ_eq_append_getElem hl,List.filter_append]
   have h6:((s.cZ.l.RX.take i).filter (λx=>decide (0 < x.Seq))).length≤4:=Nat.le_trans (List.length_filter_le _ _) (by simp;omega)
   unfold gG
   simp only
   rw [bf (by omega),cond_true,show [s.cZ.l.a0,s.cZ.l.a1,s.cZ.l.a2,s.cZ.l.a3]=s.cZ.l.RX from rfl,dP hl,Option.bind_some,h5,bM (by omega) (by omega),dA]
   by_cases q:s.cZ.l.RX[i].Seq > 0
   ·rw [bf q,cond_true,Ad (by rw [List.length_append];simp only [List.length_singleton];omega),List.filter_cons_of_pos (by simpa using q)];rfl
   ·rw [aT q,cond_false,List.filter_cons_of_neg (by simpa using q)];simp
  ·unfold gG
   rfl
 rw [key]
 rfl
theorem ajW (o:bE) (s:aS) (h:OkT s.T.L):yM o s=some ((doP o s.T.L).1,⟨⟨(doP o s.T.L).2⟩,s.S_,s.ID,s.Epoch⟩):=by
 obtain ⟨⟨L⟩,S,i,e⟩:=s
 simp only at h
 have f3:y8 o.Key ⟨⟨L⟩,S,i,e⟩=qm o.Key L:=rfl
 have hl:=h.2
 have pl:=Vg L o.Key
 unfold yM w_ xg doP
 simp only
 rw [Mf,Option.bind_some,f3,aqn L o.Key (by omega)]
 cases hr:sj o
 ·simp
 have hk:=SX hr
 simp only [Bool.not_true,cond_false,Option.bind_some,Bool.true_eq_false,if_false,ahO]
 rw [VZ L _ pl]
 by_cases k1:o.Kind=1
 ·have k2:¬ o.Kind=2:=by omega
  rw [bf k1,cond_true,if_neg k2,if_pos k1]
  cases hd:CX L o.Key
  ·simp
  ·rw [Xa (t_ hd)];simp
 rw [aT k1,cond_false]
 by_cases k2:o.Kind=2
 ·rw [bf k2,cond_true,if_pos k2]
  have lt:(L.take (place L o.Key)).length≤8:=by rw [List.length_take];omega
  cases hd:CX L o.Key
  ·simp only [Bool.not_false,cond_true]
   by_cases l8:L.length=8
   ·rw [bf (by omega),if_neg (by simp),if_pos l8];rfl
   ·rw [aT (by omega),if_neg (by simp),if_neg l8,cond_false,Option.bind_some]
    simp only [jO,cond_false,Option.bind_some]
    rw [CY (by omega),CY (by rw [List.length_append];simp only [List.length_singleton];omega),uh L _ pl,Option.bind_some,CY (by simp only [List.length_append,List.length_singleton,List.length_drop];omega)]
    unfold Nl
    rw [Int.toNat_natCast,List.append_assoc]
    rfl
  ·have c:=t_ hd
   simp only [Bool.not_true,cond_false,cond_true,Option.bind_some,jO,if_true]
   rw [CY (by omega),CY (by rw [List.length_append];simp only [List.length_singleton];omega),bM (by omega) (by omega),dA,uh L _ (by omega),Option.bind_some,CY (by simp only [List.length_append,List.length_singleton,List.length_drop];omega),axP L _ _ c]
 rw [aT k2,cond_false,if_neg k2]
 by_cases k3:o.Kind=3
 ·rw [bf k3,cond_true]
  cases hd:CX L o.Key
  ·simp
  ·have c:=t_ hd
   have k4:¬ o.Kind=4:=by omega
   simp only [Bool.not_true,cond_false,Option.bind_some,Bool.true_eq_false,if_false]
   rw [if_neg k1,if_neg k4,CY (by rw [List.length_take];omega),bM (by omega) (by omega),dA,uh L _ (by omega),Option.bind_some,CY (by simp only [List.length_append,List.length_take,List.length_drop];omega)]
   unfold Qs
   rw [Int.toNat_natCast,Int.toNat_natCast]
 rw [aT k3,cond_false]
 have k4:o.Kind=4:=by omega
 cases hd:CX L o.Key
 ·simp
 have hp:=Xa (t_ hd)
 simp only [Bool.not_true,cond_false,Bool.true_eq_false,if_false]
 rw [if_neg k1,if_pos k4,hp,Option.bind_some,Option.bind_some,Option.bind_some,afq hd,CY (by omega),Int.toNat_natCast]
 by_cases q:(pAt L o.Key).Value=o.Old
 ·rw [if_pos q];simp [q]
 ·have:((pAt L o.Key).Value==o.Old)=false:=by simpa using q
  rw [if_neg q,this];rfl
def wJ (s:dM):aS:=⟨⟨s.Table.l⟩,⟨iP s.cZ⟩,s.ID,s.Epoch⟩
def OkS (s:dM):Prop:=OkT s.Table.l∧GoodS s.cZ
def kG (r:aU):Prop:=0≤r.Client∧r.Client < 4∧1≤r.Seq∧r.Seq≤4611686018427387903∧sj r.Op=true
instance (r:aU):Decidable (kG r):=by unfold kG;infer_instance
theorem SY (r:aU):zY r=some (decide (kG r)):=by
 unfold zY
 by_cases h1:r.Client≥0
 case neg=>rw [aT h1,aT (show ¬ kG r by unfold kG;omega)];rfl
 rw [bf h1,cond_true]
 by_cases h2:r.Client < 4
 case neg=>rw [aT h2,aT (show ¬ kG r by unfold kG;omega)];rfl
 rw [bf h2,cond_true]
 by_cases h3:r.Seq≥1
 case neg=>rw [aT h3,aT (show ¬ kG r by unfold kG;omega)];rfl
 rw [bf h3,cond_true]
 by_cases h4:r.Seq≤4611686018427387903
 case neg=>rw [aT h4,aT (show ¬ kG r by unfold kG;omega)];rfl
 rw [bf h4,cond_true,Mf,Option.bind_some]
 cases h5:sj r.Op
 ·rw [aT (show ¬ kG r by unfold kG;rw [h5];simp)]
 ·rw [bf (show kG r by unfold kG;exact ⟨by omega,by omega,by omega,by omega,h5⟩)]
def YV (y:au):Bool:=(decide (y.Answer.Why=0) || decide (y.Answer.Why=4) || decide (y.Answer.Why=5) || decide (y.Answer.Why=6))&&decide (y.Answer.Value.length≤16)&&decide (y.Seq≤4611686018427387903)
def ajX (p:av):Bool:=decide (p.Key.length < 1) || decide (8 < p.Key.length) || decide (16 < p.Value.length)
def OkP (L:List av):Prop:=∀ p∈L,ajX p=false
theorem abj {o:bE} (h:sj o=true):ajX ⟨o.Key,o.Value⟩=false:=by
 unfold sj at h
 simp only [Bool.and_eq_true,decide_eq_true_eq] at h
 unfold ajX
 simp only
 rw [aT (show ¬ o.Key.length < 1 by omega),aT (show ¬ 8 < o.Key.length by omega),aT (show ¬ 16 < o.Value.length by omega)]
 rfl
theorem aqr {L:List av} (h:OkP L) (o:bE):OkP (doP o L).2:=by
 have st:sj o=true→OkP (L.set (place L o.Key) ⟨o.Key,o.Value⟩):=λhr p hp=>by
  rcases List.mem_or_eq_of_mem_set hp with q | rfl
  ·exact h p q
  ·exact abj hr
 unfold doP
 split
 ·exact h
 next hr =>
 have hr:sj o=true:=by simpa using hr
 split
 ·split
  ·exact st hr
  ·split
   ·exact h
   ·intro p hp
    simp only [Nl] at hp
    rcases List.mem_append.1 hp with q | q
    ·exact h p (List.mem_of_mem_take q)
    ·rcases List.mem_cons.1 q with rfl | q
     ·exact abj hr
     ·exact h p (List.mem_of_mem_drop q)
 split
 ·exact h
 split
 ·exact h
 split
 ·split
  ·exact st hr
  ·exact h
 ·intro p hp
  simp only [Qs] at hp
  rcases List.mem_append.1 hp with q | q
  ·exact h p (List.mem_of_mem_take q)
  ·exact h p (List.mem_of_mem_drop q)
theorem aqs (l:List av):∀ L,OkP L→OkP (ofP L l):=by
 induction l with
 | nil=>exact λL h=>h
 | cons x l ih=>exact λL h=>ih _ (aqr h _)
end Go.Proofs.YtohoggieaanllaaGreat
