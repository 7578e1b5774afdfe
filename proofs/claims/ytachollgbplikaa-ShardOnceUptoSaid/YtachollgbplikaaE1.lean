import Derived.Test.YtachollgbplikaaS0
import Derived.Test.YtachollgbplikaaT3
import Derived.Test.YtachollgbplikaaY5
set_option linter.all false
set_option linter.unusedSimpArgs false
namespace Go.Proofs.Ytachollgbplikaa
theorem last3_plain (c:Int) (s:oR_Shard) (h:s.S_.L.length < 1000000):oR_Sessions_Last_3 c s=some (lastOf c s.S_.L):=by
  unfold oR_Sessions_Last_3 oR_Sessions_Last_3_L0 lastOf
  rw [last_find c s.S_.L h (oR_Sessions_Last_3_L0_s s c) (fun _=>rfl),Option.bind_some]
  cases s.S_.L.find? (fun y=>y.Client == c) <;> rfl
theorem note3_plain (x:api_Sess) (s:oR_Shard) (h:s.S_.L.length < 1000):oR_Sessions_Note_3 x s=some ((noteR x s.S_.L).1,⟨s.T,⟨(noteR x s.S_.L).2⟩,s.ID,s.Epoch⟩):=by
  have e:=note2_plain x s.S_.L h
  have e3:oR_Sessions_Note_3 x s=(oR_Sessions_Note_2 x s.S_.L).bind fun r=>some (r.1,⟨s.T,⟨r.2⟩,s.ID,s.Epoch⟩):=by
    unfold oR_Sessions_Note_3 oR_Sessions_Note_2
    rw [last3_plain _ _ (by omega),last2_plain _ _ (by omega),Option.bind_some,Option.bind_some]
    have j0:oR_Sessions_Note_3_J0 x (lastOf x.Client s.S_.L) s=oR_Sessions_Note_2_J0 x (lastOf x.Client s.S_.L) s.S_.L:=rfl
    have j3:oR_Sessions_Note_3_L3 s x (false,0,[])=oR_Sessions_Note_2_L3 s.S_.L x (false,0,[]):=rfl
    rw [j0,j3,note2_loop x _ h]
    cases oR_Sessions_Note_2_J0 x (lastOf x.Client s.S_.L) s.S_.L with
    | none=>rfl
    | some r =>
      cases r with
      | inl _=>rfl
      | inr _ =>
        simp only [Option.bind_some,isL,cond_false]
        have j4:oR_Sessions_Note_3_J4 (s.S_.L.foldl (nstep x) (false,[])) x s=oR_Sessions_Note_2_J4 (s.S_.L.foldl (nstep x) (false,[])) x s.S_.L:=rfl
        rw [j4]
        cases oR_Sessions_Note_2_J4 (s.S_.L.foldl (nstep x) (false,[])) x s.S_.L <;> rfl
  rw [e3,e]
  rfl
theorem all_plain (s:shard_Shard):session_Sessions_All s=some (allOf s.Sessions):=by
  unfold session_Sessions_All session_Sessions_All_L0
  have key:loopX (session_Sessions_All_L0_s s) KK (0,[])=some (allOf s.Sessions):=by
    refine loop_run (fun i=>((i:Int),(s.Sessions.l.toL.take i).filter (fun x=>decide (0 < x.Seq)))) 4 _ (fun i hi=>?_) ?_ (by omega)
    · have hl:i < s.Sessions.l.toL.length:=by simpa [A4.toL] using hi
      have h5:(s.Sessions.l.toL.take (i+1)).filter (fun x=>decide (0 < x.Seq))=(s.Sessions.l.toL.take i).filter (fun x=>decide (0 < x.Seq)) ++ [s.Sessions.l.toL[i]].filter (fun x=>decide (0 < x.Seq)):=by
        rw [List.take_succ_eq_append_getElem hl,List.filter_append]
      have h6:((s.Sessions.l.toL.take i).filter (fun x=>decide (0 < x.Seq))).length≤4:=Nat.le_trans (List.length_filter_le _ _) (by simp; omega)
      unfold session_Sessions_All_L0_s
      simp only
      rw [dec_t (by omega),cond_true,show [s.Sessions.l.a0,s.Sessions.l.a1,s.Sessions.l.a2,s.Sessions.l.a3]=s.Sessions.l.toL from rfl,getI_at hl,Option.bind_some,h5,wrap_id (by omega) (by omega),succ_cast]
      by_cases q:s.Sessions.l.toL[i].Seq > 0
      · rw [dec_t q,cond_true,gd_fits40 (by rw [List.length_append]; simp only [List.length_singleton]; omega),List.filter_cons_of_pos (by simpa using q)]; rfl
      · rw [dec_f q,cond_false,List.filter_cons_of_neg (by simpa using q)]; simp
    · unfold session_Sessions_All_L0_s
      rfl
  rw [key]
  rfl
theorem last_alike (c:Int) (t:table_Table) (s:session_Sessions) (i e:Int) (hs:GoodS s):session_Sessions_Last c ⟨t,s,i,e⟩=some (lastOf c (allOf s)):=by
  obtain ⟨⟨a0,a1,a2,a3⟩⟩:=s
  obtain ⟨g0,g1,g2,g3⟩:=hs
  simp only at g0 g1 g2 g3
  have hc:c=0∨c=1∨c=2∨c=3∨(c < 0∨4≤c):=by omega
  unfold session_Sessions_Last session_Sessions_Last_J0
  have zero:c < 0∨4≤c→lastOf c (allOf ⟨⟨a0,a1,a2,a3⟩⟩)=(noneS,false):=by
    intro h
    unfold lastOf
    have e:(allOf ⟨⟨a0,a1,a2,a3⟩⟩).find? (fun y=>y.Client == c)=none:=by
      rw [List.find?_eq_none]
      intro y hy
      unfold allOf at hy
      rw [List.mem_filter] at hy
      obtain ⟨m,p⟩:=hy
      simp [A4.toL] at m p
      rcases m with rfl | rfl | rfl | rfl
      · rcases g0 with k | ⟨_,k⟩ <;> simp <;> omega
      · rcases g1 with k | ⟨_,k⟩ <;> simp <;> omega
      · rcases g2 with k | ⟨_,k⟩ <;> simp <;> omega
      · rcases g3 with k | ⟨_,k⟩ <;> simp <;> omega
    rw [e]
  rcases hc with rfl | rfl | rfl | rfl | hc
  · rcases g0 with k0 | ⟨k0,q0⟩ <;> rcases g1 with k1 | ⟨k1,q1⟩ <;> rcases g2 with k2 | ⟨k2,q2⟩ <;> rcases g3 with k3 | ⟨k3,q3⟩ <;> simp [lastOf,allOf,A4.toL,noneS,getI,isL, *] <;> rw [beq_f (by omega)] <;> rfl
  · rcases g0 with k0 | ⟨k0,q0⟩ <;> rcases g1 with k1 | ⟨k1,q1⟩ <;> rcases g2 with k2 | ⟨k2,q2⟩ <;> rcases g3 with k3 | ⟨k3,q3⟩ <;> simp [lastOf,allOf,A4.toL,noneS,getI,isL, *] <;> rw [beq_f (by omega)] <;> rfl
  · rcases g0 with k0 | ⟨k0,q0⟩ <;> rcases g1 with k1 | ⟨k1,q1⟩ <;> rcases g2 with k2 | ⟨k2,q2⟩ <;> rcases g3 with k3 | ⟨k3,q3⟩ <;> simp [lastOf,allOf,A4.toL,noneS,getI,isL, *] <;> rw [beq_f (by omega)] <;> rfl
  · rcases g0 with k0 | ⟨k0,q0⟩ <;> rcases g1 with k1 | ⟨k1,q1⟩ <;> rcases g2 with k2 | ⟨k2,q2⟩ <;> rcases g3 with k3 | ⟨k3,q3⟩ <;> simp [lastOf,allOf,A4.toL,noneS,getI,isL, *] <;> rw [beq_f (by omega)] <;> rfl
  · rw [zero hc]
    by_cases h:c < 0
    · rw [dec_t h]; rfl
    · rw [dec_f h,dec_t (show c ≥ 4 by omega)]; rfl
theorem noteS2 (x:api_Sess) (s:shard_Shard):session_Sessions_Note_2 x s=(session_Sessions_Note x s.Sessions).bind fun r=>some (r.1,⟨s.Table,r.2,s.ID,s.Epoch⟩):=by
  unfold session_Sessions_Note_2 session_Sessions_Note
  have j0:session_Sessions_Note_2_J0 x s=session_Sessions_Note_J0 x s.Sessions:=rfl
  rw [j0]
  cases session_Sessions_Note_J0 x s.Sessions with
  | none=>rfl
  | some r =>
    cases r with
    | inl _=>rfl
    | inr _ =>
      simp only [Option.bind_some,isL,cond_false]
      cases getI s.Sessions.l.toL x.Client <;> rfl
theorem do4_plain (o:api_Op) (s:shard_Shard) (h:OkT s.Table.l):table_Table_Do_4 o s=some ((doP o s.Table.l).1,⟨⟨(doP o s.Table.l).2⟩,s.Sessions,s.ID,s.Epoch⟩):=by
  obtain ⟨⟨L⟩,S,i,e⟩:=s
  simp only at h
  have hl:=h.2
  have pl:=place_le L o.Key
  unfold table_Table_Do_4 table_Table_find_4 doP
  simp only
  rw [right_plain,Option.bind_some,find_plain L o.Key h.1 (by omega)]
  cases hr:rightP o
  · simp
  have hk:=right_kind hr
  simp only [Bool.not_true,cond_false,Option.bind_some,Bool.true_eq_false,if_false,ibeq]
  by_cases k2:o.Kind=2
  · rw [dec_t k2,cond_true,if_pos k2]
    unfold table_Table_put_4 table_Table_set_4
    simp only
    cases hd:hadL L o.Key
    · rw [cond_false,if_neg (by simp),ibeq]
      by_cases l8:L.length=8
      · rw [dec_t (by omega),if_pos l8]; rfl
      · rw [dec_f (by omega),if_neg l8,cond_false,gd32 (by omega),gd_true (by simp [insB,fitsB]; omega)]; rfl
    · rw [cond_true,gd32 (by omega),pAt_eq (had_yes hd),Option.bind_some,pAt_key hd,Int.toNat_natCast,if_pos rfl]; rfl
  rw [dec_f k2,cond_false,if_neg k2]
  cases hd:hadL L o.Key
  · simp
  have hp:=pAt_eq (had_yes hd)
  simp only [Bool.not_true,cond_false,Bool.true_eq_false,if_false]
  by_cases k1:o.Kind=1
  · rw [dec_t k1,cond_true,if_pos k1,hp]; rfl
  rw [dec_f k1,cond_false,if_neg k1]
  by_cases k4:o.Kind=4
  · rw [dec_t k4,cond_true,if_pos k4]
    unfold table_Table_cas_4 table_Table_set_4
    simp only
    rw [hp,Option.bind_some,gd32 (by omega),Option.bind_some,pAt_key hd,Int.toNat_natCast]
    by_cases q:(pAt L o.Key).Value=o.Old
    · rw [if_pos q]; simp [q]
    · have:((pAt L o.Key).Value == o.Old)=false:=by simpa using q
      rw [if_neg q,this]; rfl
  · have c:=had_yes hd
    rw [dec_f k4,cond_false,if_neg k4,gd32 (by omega),wrap_id (by omega) (by omega),gd_true (by simp [delB]; omega)]
theorem rdo4_plain (o:api_Op) (s:oR_Shard) (h:OkT s.T.L):oR_Table_Do_4 o s=some ((doP o s.T.L).1,⟨⟨(doP o s.T.L).2⟩,s.S_,s.ID,s.Epoch⟩):=by
  obtain ⟨⟨L⟩,S,i,e⟩:=s
  simp only at h
  have f4:oR_Table_find_4 o.Key ⟨⟨L⟩,S,i,e⟩=oR_Table_find_2 o.Key L:=rfl
  have hl:=h.2
  have pl:=place_le L o.Key
  unfold oR_Table_Do_4 oR_Table_Do_4_J0 oR_Table_Do_4_J1 doP
  simp only
  rw [rright_plain,Option.bind_some,f4,rfind2 L o.Key (by omega)]
  cases hr:rightP o
  · simp
  have hk:=right_kind hr
  simp only [Bool.not_true,cond_false,Option.bind_some,Bool.true_eq_false,if_false,ibeq]
  rw [slI_to L _ pl]
  by_cases k1:o.Kind=1
  · have k2:¬ o.Kind=2:=by omega
    rw [dec_t k1,cond_true,if_neg k2,if_pos k1]
    cases hd:hadL L o.Key
    · simp
    · rw [pAt_eq (had_yes hd)]; simp
  rw [dec_f k1,cond_false]
  by_cases k2:o.Kind=2
  · rw [dec_t k2,cond_true,if_pos k2]
    have lt:(L.take (place L o.Key)).length≤8:=by rw [List.length_take]; omega
    cases hd:hadL L o.Key
    · simp only [Bool.not_false,cond_true]
      by_cases l8:L.length=8
      · rw [dec_t (by omega),if_neg (by simp),if_pos l8]; rfl
      · rw [dec_f (by omega),if_neg (by simp),if_neg l8,cond_false,Option.bind_some]
        simp only [isL,cond_false,Option.bind_some]
        rw [gd32 (by omega),gd32 (by rw [List.length_append]; simp only [List.length_singleton]; omega),slI_from L _ pl,Option.bind_some,gd32 (by simp only [List.length_append,List.length_singleton,List.length_drop]; omega)]
        unfold insL
        rw [Int.toNat_natCast,List.append_assoc]
        rfl
    · have c:=had_yes hd
      simp only [Bool.not_true,cond_false,cond_true,Option.bind_some,isL,if_true]
      rw [gd32 (by omega),gd32 (by rw [List.length_append]; simp only [List.length_singleton]; omega),wrap_id (by omega) (by omega),succ_cast,slI_from L _ (by omega),Option.bind_some,gd32 (by simp only [List.length_append,List.length_singleton,List.length_drop]; omega),rset L _ _ c]
  rw [dec_f k2,cond_false,if_neg k2]
  by_cases k3:o.Kind=3
  · rw [dec_t k3,cond_true]
    cases hd:hadL L o.Key
    · simp
    · have c:=had_yes hd
      have k4:¬ o.Kind=4:=by omega
      simp only [Bool.not_true,cond_false,Option.bind_some,Bool.true_eq_false,if_false]
      rw [if_neg k1,if_neg k4,gd32 (by rw [List.length_take]; omega),wrap_id (by omega) (by omega),succ_cast,slI_from L _ (by omega),Option.bind_some,gd32 (by simp only [List.length_append,List.length_take,List.length_drop]; omega)]
      unfold delL
      rw [Int.toNat_natCast,Int.toNat_natCast]
  rw [dec_f k3,cond_false]
  have k4:o.Kind=4:=by omega
  cases hd:hadL L o.Key
  · simp
  have hp:=pAt_eq (had_yes hd)
  simp only [Bool.not_true,cond_false,Bool.true_eq_false,if_false]
  rw [if_neg k1,if_pos k4,hp,Option.bind_some,Option.bind_some,Option.bind_some,pAt_key hd,gd32 (by omega),Int.toNat_natCast]
  by_cases q:(pAt L o.Key).Value=o.Old
  · rw [if_pos q]; simp [q]
  · have:((pAt L o.Key).Value == o.Old)=false:=by simpa using q
    rw [if_neg q,this]; rfl
end Go.Proofs.Ytachollgbplikaa
