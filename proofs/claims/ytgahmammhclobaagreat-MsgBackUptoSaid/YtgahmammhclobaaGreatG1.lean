import Derived.Test.YtgahmammhclobaaGreatS0
import Derived.Test.YtgahmammhclobaaGreatT3
import Derived.Test.YtgahmammhclobaaGreatY5
set_option linter.all false
set_option linter.unusedSimpArgs false
namespace Go.Proofs.YtgahmammhclobaaGreat
theorem last3_plain (c:Int) (s:oR_Shard) (h:s.S_.L.length < 1000000):oR_Sessions_Last_3 c s=some (lastOf c s.S_.L):=by
 unfold oR_Sessions_Last_3 oR_Sessions_Last_3_L0 lastOf
 rw [last_find c s.S_.L h (oR_Sessions_Last_3_L0_s s c) (fun _=>rfl),Option.bind_some]
 cases s.S_.L.find? (fun y=>y.Client == c) <;> rfl
theorem note3_plain (x:api_Sess) (s:oR_Shard) (h:s.S_.L.length < 1000):oR_Sessions_Note_3 x s=some ((noteR x s.S_.L).1,⟨s.T,⟨(noteR x s.S_.L).2⟩,s.ID,s.Epoch⟩):=by
 have e:=note2_plain x s.S_.L h
 have e3:oR_Sessions_Note_3 x s=(oR_Sessions_Note_2 x s.S_.L).bind fun r=>some (r.1,⟨s.T,⟨r.2⟩,s.ID,s.Epoch⟩):=by
  unfold oR_Sessions_Note_3 oR_Sessions_Note_2
  rw [last3_plain _ _ (by omega),last2_plain _ _ (by omega),Option.bind_some,Option.bind_some]
  have j0:oR_Sessions_Note_3_J0 x (lastOf x.Client s.S_.L) s=oR_Sessions_Note_2_J0 x (lastOf x.Client s.S_.L) s.S_.L:=rfl
  have j3:oR_Sessions_Note_3_L3 s x (false,0,[])=oR_Sessions_Note_2_L3 s.S_.L x (false,0,[]):=rfl
  rw [j0,j3,note2_loop x _ h]
  cases oR_Sessions_Note_2_J0 x (lastOf x.Client s.S_.L) s.S_.L with
  | none=>rfl
  | some r =>
   cases r with
   | inl _=>rfl
   | inr _ =>
    simp only [Option.bind_some,isL,cond_false]
    have j4:oR_Sessions_Note_3_J4 (s.S_.L.foldl (nstep x) (false,[])) x s=oR_Sessions_Note_2_J4 (s.S_.L.foldl (nstep x) (false,[])) x s.S_.L:=rfl
    rw [j4]
    cases oR_Sessions_Note_2_J4 (s.S_.L.foldl (nstep x) (false,[])) x s.S_.L <;> rfl
 rw [e3,e]
 rfl
theorem all_plain (s:shard_Shard):session_Sessions_All s=some (allOf s.Sessions):=by
 unfold session_Sessions_All session_Sessions_All_L0
 have key:loopX (session_Sessions_All_L0_s s) KK (0,[])=some (allOf s.Sessions):=by
  refine loop_run (fun i=>((i:Int),(s.Sessions.l.toL.take i).filter (fun x=>decide (0 < x.Seq)))) 4 _ (fun i hi=>?_) ?_ (by omega)
  ·have hl:i < s.Sessions.l.toL.length:=by simpa [A4.toL] using hi
   have h5:(s.Sessions.l.toL.take (i+1)).filter (fun x=>decide (0 < x.Seq))=(s.Sessions.l.toL.take i).filter (fun x=>decide (0 < x.Seq)) ++ [s.Sessions.l.toL[i]].filter (fun x=>decide (0 < x.Seq)):=by
    rw [List.take_succ_eq_append_getElem hl,List.filter_append]
   have h6:((s.Sessions.l.toL.take i).filter (fun x=>decide (0 < x.Seq))).length≤4:=Nat.le_trans (List.length_filter_le _ _) (by simp; omega)
   unfold session_Sessions_All_L0_s
   simp only
   rw [dec_t (by omega),cond_true,show [s.Sessions.l.a0,s.Sessions.l.a1,s.Sessions.l.a2,s.Sessions.l.a3]=s.Sessions.l.toL from rfl,getI_at hl,Option.bind_some,h5,wrap_id (by omega) (by omega),succ_cast]
   by_cases q:s.Sessions.l.toL[i].Seq > 0
   ·rw [dec_t q,cond_true,gd_fits40 (by rw [List.length_append]; simp only [List.length_singleton]; omega),List.filter_cons_of_pos (by simpa using q)]; rfl
   ·rw [dec_f q,cond_false,List.filter_cons_of_neg (by simpa using q)]; simp
  ·unfold session_Sessions_All_L0_s
   rfl
 rw [key]
 rfl
theorem rdo3_plain (o:api_Op) (s:oR_Shard) (h:OkT s.T.L):oR_Table_Do_3 o s=some ((doP o s.T.L).1,⟨⟨(doP o s.T.L).2⟩,s.S_,s.ID,s.Epoch⟩):=by
 obtain ⟨⟨L⟩,S,i,e⟩:=s
 simp only at h
 have f3:oR_Table_find_3 o.Key ⟨⟨L⟩,S,i,e⟩=oR_Table_find_2 o.Key L:=rfl
 have hl:=h.2
 have pl:=place_le L o.Key
 unfold oR_Table_Do_3 oR_Table_Do_3_J0 oR_Table_Do_3_J1 doP
 simp only
 rw [rright_plain,Option.bind_some,f3,rfind2 L o.Key (by omega)]
 cases hr:rightP o
 ·simp
 have hk:=right_kind hr
 simp only [Bool.not_true,cond_false,Option.bind_some,Bool.true_eq_false,if_false,ibeq]
 rw [slI_to L _ pl]
 by_cases k1:o.Kind=1
 ·have k2:¬ o.Kind=2:=by omega
  rw [dec_t k1,cond_true,if_neg k2,if_pos k1]
  cases hd:hadL L o.Key
  ·simp
  ·rw [pAt_eq (had_yes hd)]; simp
 rw [dec_f k1,cond_false]
 by_cases k2:o.Kind=2
 ·rw [dec_t k2,cond_true,if_pos k2]
  have lt:(L.take (place L o.Key)).length≤8:=by rw [List.length_take]; omega
  cases hd:hadL L o.Key
  ·simp only [Bool.not_false,cond_true]
   by_cases l8:L.length=8
   ·rw [dec_t (by omega),if_neg (by simp),if_pos l8]; rfl
   ·rw [dec_f (by omega),if_neg (by simp),if_neg l8,cond_false,Option.bind_some]
    simp only [isL,cond_false,Option.bind_some]
    rw [gd32 (by omega),gd32 (by rw [List.length_append]; simp only [List.length_singleton]; omega),slI_from L _ pl,Option.bind_some,gd32 (by simp only [List.length_append,List.length_singleton,List.length_drop]; omega)]
    unfold insL
    rw [Int.toNat_natCast,List.append_assoc]
    rfl
  ·have c:=had_yes hd
   simp only [Bool.not_true,cond_false,cond_true,Option.bind_some,isL,if_true]
   rw [gd32 (by omega),gd32 (by rw [List.length_append]; simp only [List.length_singleton]; omega),wrap_id (by omega) (by omega),succ_cast,slI_from L _ (by omega),Option.bind_some,gd32 (by simp only [List.length_append,List.length_singleton,List.length_drop]; omega),rset L _ _ c]
 rw [dec_f k2,cond_false,if_neg k2]
 by_cases k3:o.Kind=3
 ·rw [dec_t k3,cond_true]
  cases hd:hadL L o.Key
  ·simp
  ·have c:=had_yes hd
   have k4:¬ o.Kind=4:=by omega
   simp only [Bool.not_true,cond_false,Option.bind_some,Bool.true_eq_false,if_false]
   rw [if_neg k1,if_neg k4,gd32 (by rw [List.length_take]; omega),wrap_id (by omega) (by omega),succ_cast,slI_from L _ (by omega),Option.bind_some,gd32 (by simp only [List.length_append,List.length_take,List.length_drop]; omega)]
   unfold delL
   rw [Int.toNat_natCast,Int.toNat_natCast]
 rw [dec_f k3,cond_false]
 have k4:o.Kind=4:=by omega
 cases hd:hadL L o.Key
 ·simp
 have hp:=pAt_eq (had_yes hd)
 simp only [Bool.not_true,cond_false,Bool.true_eq_false,if_false]
 rw [if_neg k1,if_pos k4,hp,Option.bind_some,Option.bind_some,Option.bind_some,pAt_key hd,gd32 (by omega),Int.toNat_natCast]
 by_cases q:(pAt L o.Key).Value=o.Old
 ·rw [if_pos q]; simp [q]
 ·have:((pAt L o.Key).Value == o.Old)=false:=by simpa using q
  rw [if_neg q,this]; rfl
def refOf (s:shard_Shard):oR_Shard:=⟨⟨s.Table.l⟩,⟨allOf s.Sessions⟩,s.ID,s.Epoch⟩
def OkS (s:shard_Shard):Prop:=OkT s.Table.l∧GoodS s.Sessions
def rightR (r:api_Req):Prop:=0≤r.Client∧r.Client < 4∧1≤r.Seq∧r.Seq≤4611686018427387903∧rightP r.Op=true
instance (r:api_Req):Decidable (rightR r):=by unfold rightR; infer_instance
theorem rreq_plain (r:api_Req):oR_RightReq r=some (decide (rightR r)):=by
 unfold oR_RightReq
 by_cases h1:r.Client ≥ 0
 case neg=>rw [dec_f h1,dec_f (show ¬ rightR r by unfold rightR; omega)]; rfl
 rw [dec_t h1,cond_true]
 by_cases h2:r.Client < 4
 case neg=>rw [dec_f h2,dec_f (show ¬ rightR r by unfold rightR; omega)]; rfl
 rw [dec_t h2,cond_true]
 by_cases h3:r.Seq ≥ 1
 case neg=>rw [dec_f h3,dec_f (show ¬ rightR r by unfold rightR; omega)]; rfl
 rw [dec_t h3,cond_true]
 by_cases h4:r.Seq≤4611686018427387903
 case neg=>rw [dec_f h4,dec_f (show ¬ rightR r by unfold rightR; omega)]; rfl
 rw [dec_t h4,cond_true,rright_plain,Option.bind_some]
 cases h5:rightP r.Op
 ·rw [dec_f (show ¬ rightR r by unfold rightR; rw [h5]; simp)]
 ·rw [dec_t (show rightR r by unfold rightR; exact ⟨by omega,by omega,by omega,by omega,h5⟩)]
def ansP (y:api_Sess):Bool:=(decide (y.Answer.Why=0) || decide (y.Answer.Why=4) || decide (y.Answer.Why=5) || decide (y.Answer.Why=6)) && decide (y.Answer.Value.length≤16) && decide (y.Seq≤4611686018427387903)
def badP (p:api_Pair):Bool:=decide (p.Key.length < 1) || decide (8 < p.Key.length) || decide (16 < p.Value.length)
def OkP (L:List api_Pair):Prop:=∀ p ∈ L,badP p=false
theorem right_pair {o:api_Op} (h:rightP o=true):badP ⟨o.Key,o.Value⟩=false:=by
 unfold rightP at h
 simp only [Bool.and_eq_true,decide_eq_true_eq] at h
 unfold badP
 simp only
 rw [dec_f (show ¬ o.Key.length < 1 by omega),dec_f (show ¬ 8 < o.Key.length by omega),dec_f (show ¬ 16 < o.Value.length by omega)]
 rfl
theorem okP_do {L:List api_Pair} (h:OkP L) (o:api_Op):OkP (doP o L).2:=by
 have st:rightP o=true→OkP (L.set (place L o.Key) ⟨o.Key,o.Value⟩):=fun hr p hp=>by
  rcases List.mem_or_eq_of_mem_set hp with q | rfl
  ·exact h p q
  ·exact right_pair hr
 unfold doP
 split
 ·exact h
 next hr =>
 have hr:rightP o=true:=by simpa using hr
 split
 ·split
  ·exact st hr
  ·split
   ·exact h
   ·intro p hp
    simp only [insL] at hp
    rcases List.mem_append.1 hp with q | q
    ·exact h p (List.mem_of_mem_take q)
    ·rcases List.mem_cons.1 q with rfl | q
     ·exact right_pair hr
     ·exact h p (List.mem_of_mem_drop q)
 split
 ·exact h
 split
 ·exact h
 split
 ·split
  ·exact st hr
  ·exact h
 ·intro p hp
  simp only [delL] at hp
  rcases List.mem_append.1 hp with q | q
  ·exact h p (List.mem_of_mem_take q)
  ·exact h p (List.mem_of_mem_drop q)
theorem okP_of (l:List api_Pair):∀ L,OkP L→OkP (ofP L l):=by
 induction l with
 | nil=>exact fun L h=>h
 | cons x l ih=>exact fun L h=>ih _ (okP_do h _)
end Go.Proofs.YtgahmammhclobaaGreat
