import Derived.Test.YtachollgbplikaaE2
import Derived.Test.YtachollgbplikaaH2
set_option linter.all false
set_option linter.unusedSimpArgs false
namespace Go.Proofs.Ytachollgbplikaa
def ansP (y:api_Sess):Bool:=(decide (y.Answer.Why=0) || decide (y.Answer.Why=4) || decide (y.Answer.Why=5) || decide (y.Answer.Why=6)) && decide (y.Answer.Value.length≤16) && decide (y.Seq≤4611686018427387903)
def badP (p:api_Pair):Bool:=decide (p.Key.length < 1) || decide (8 < p.Key.length) || decide (16 < p.Value.length)
theorem answered_plain (y:api_Sess):shard_answered y=some (ansP y):=by
  unfold shard_answered shard_answered_J0 ansP
  simp only [ibeq]
  by_cases a:y.Answer.Why=0 <;> by_cases b:y.Answer.Why=4 <;> by_cases c:y.Answer.Why=5 <;> by_cases d:y.Answer.Why=6 <;> by_cases e:y.Answer.Value.length≤16 <;>
    simp [a,b,c,d,e,show ((y.Answer.Value.length:Int)≤16)↔y.Answer.Value.length≤16 by omega]
theorem contains_plain (L:List api_Sess) (h:L.length < 1000000):slices_ContainsFunc_api_Sess_api_Sess L=some (L.any fun y=>!ansP y):=by
  obtain ⟨e,e1,e2⟩:=anyloop L (fun y=>!ansP y) h (slices_IndexFunc_api_Sess_api_Sess_L0_s L) (fun i=>(i:Int)) (fun i hi=>by
    unfold slices_IndexFunc_api_Sess_api_Sess_L0_s shard_Right_1
    rw [dec_t (by omega),cond_true,getI_at hi,Option.bind_some,answered_plain,Option.bind_some,Option.bind_some,wrap_id (by omega) (by omega),succ_cast]) (by
    unfold slices_IndexFunc_api_Sess_api_Sess_L0_s
    rw [dec_f (by omega),cond_false])
  unfold slices_ContainsFunc_api_Sess_api_Sess slices_IndexFunc_api_Sess_api_Sess slices_IndexFunc_api_Sess_api_Sess_L0
  rw [e1,Option.bind_some]
  rcases e2 with ⟨q,i,rfl⟩ | ⟨q,rfl⟩
  · rw [q]
    simp only [isL,getL,cond_true,Option.bind_some]
    rw [dec_t (by omega)]
  · rw [q]; rfl
def OkP (L:List api_Pair):Prop:=∀ p ∈ L,badP p=false
theorem right_pair {o:api_Op} (h:rightP o=true):badP ⟨o.Key,o.Value⟩=false:=by
  unfold rightP at h
  simp only [Bool.and_eq_true,decide_eq_true_eq] at h
  unfold badP
  simp only
  rw [dec_f (show ¬ o.Key.length < 1 by omega),dec_f (show ¬ 8 < o.Key.length by omega),dec_f (show ¬ 16 < o.Value.length by omega)]
  rfl
theorem okP_do {L:List api_Pair} (h:OkP L) (o:api_Op):OkP (doP o L).2:=by
  have st:rightP o=true→OkP (L.set (place L o.Key) ⟨o.Key,o.Value⟩):=fun hr p hp=>by
    rcases List.mem_or_eq_of_mem_set hp with q | rfl
    · exact h p q
    · exact right_pair hr
  unfold doP
  split
  · exact h
  next hr =>
  have hr:rightP o=true:=by simpa using hr
  split
  · split
    · exact st hr
    · split
      · exact h
      · intro p hp
        simp only [insL] at hp
        rcases List.mem_append.1 hp with q | q
        · exact h p (List.mem_of_mem_take q)
        · rcases List.mem_cons.1 q with rfl | q
          · exact right_pair hr
          · exact h p (List.mem_of_mem_drop q)
  split
  · exact h
  split
  · exact h
  split
  · split
    · exact st hr
    · exact h
  · intro p hp
    simp only [delL] at hp
    rcases List.mem_append.1 hp with q | q
    · exact h p (List.mem_of_mem_take q)
    · exact h p (List.mem_of_mem_drop q)
theorem okP_of (l:List api_Pair):∀ L,OkP L→OkP (ofP L l):=by
  induction l with
  | nil=>exact fun L h=>h
  | cons x l ih=>exact fun L h=>ih _ (okP_do h _)
theorem right_alike (x:api_Image) (h1:x.Pairs.length < 1000000) (h2:x.Sess.length < 1000000):∃ b,shard_Right x=some b∧oR_RightImage x=some b:=by
  unfold shard_Right oR_RightImage
  have j0:shard_Right_J0 x=oR_RightImage_J0 x:=rfl
  have jj:oR_RightImage_J0 x=some (.inl ())∨oR_RightImage_J0 x=some (.inr ()):=by
    unfold oR_RightImage_J0
    cases decide (x.Shard < 0) <;> cases decide (x.Shard ≥ 6) <;> cases decide (x.Epoch < 1) <;> cases decide (x.Epoch > 1099511627776) <;> simp
  rw [j0]
  rcases jj with jj | jj <;> rw [jj,Option.bind_some]
  · exact ⟨false,rfl,rfl⟩
  simp only [isL,cond_false,Option.bind_some]
  obtain ⟨s,e1,e2,e3,e4,e5,e6⟩:=of_shard x (by omega) (by omega)
  have hT:=e2.1.2
  have hS:=all_len s.Sessions
  have j1:shard_Right_J1 s x=some (decide (s.Table.l=x.Pairs∧allOf s.Sessions=x.Sess)):=by
    unfold shard_Right_J1 table_Table_Pairs_3
    rw [gd32 (by omega),Option.bind_some,equalP _ _ (by omega),Option.bind_some,all_plain,Option.bind_some,equalS _ _ (by omega),Option.bind_some]
    by_cases a:s.Table.l=x.Pairs <;> by_cases b:allOf s.Sessions=x.Sess <;> simp [a,b]
  rw [e1,Option.bind_some,j1,Option.bind_some,contains_plain _ h2,e6]
  obtain ⟨p,p1,p2⟩:=anyloop x.Pairs badP h1 (oR_RightImage_L1_s x) (fun _=>()) (fun i hi=>by
    unfold oR_RightImage_L1_s badP
    rw [dec_t (by omega),cond_true,getI_at hi]
    simp only [Option.bind_some]
    rw [wrap_id (by omega) (by omega),succ_cast]
    by_cases a:x.Pairs[i].Key.length < 1
    · rw [dec_t (by omega),dec_t a]; rfl
    rw [dec_f (by omega),dec_f a,cond_false]
    by_cases b:8 < x.Pairs[i].Key.length
    · rw [dec_t (by omega),dec_t b]; rfl
    rw [dec_f (by omega),dec_f b,cond_false]
    by_cases c:16 < x.Pairs[i].Value.length
    · rw [dec_t (by omega),dec_t c]; rfl
    rw [dec_f (by omega),dec_f c]; rfl) (by
    unfold oR_RightImage_L1_s
    rw [dec_f (by omega),cond_false])
  obtain ⟨q,q1,q2⟩:=anyloop x.Sess (fun y=>!ansP y) h2 (oR_RightImage_L3_s x) (fun _=>()) (fun i hi=>by
    unfold oR_RightImage_L3_s oR_RightImage_J2 ansP
    rw [dec_t (by omega),cond_true,getI_at hi,Option.bind_some]
    simp only [ibeq]
    rw [wrap_id (by omega) (by omega),succ_cast]
    by_cases e:x.Sess[i].Answer.Value.length≤16 <;> by_cases f:x.Sess[i].Seq≤4611686018427387903 <;>
      by_cases a:x.Sess[i].Answer.Why=0 <;> by_cases b:x.Sess[i].Answer.Why=4 <;> by_cases c:x.Sess[i].Answer.Why=5 <;> by_cases d:x.Sess[i].Answer.Why=6 <;>
      simp [a,b,c,d,e,f,show ((16:Int) < (x.Sess[i].Answer.Value.length:Int))↔¬ x.Sess[i].Answer.Value.length≤16 by omega,show (4611686018427387903 < x.Sess[i].Seq)↔¬ x.Sess[i].Seq≤4611686018427387903 by omega]) (by
    unfold oR_RightImage_L3_s
    rw [dec_f (by omega),cond_false])
  unfold oR_RightImage_L1 oR_RightImage_L3
  rw [p1,Option.bind_some,q1]
  have fin:oR_SameImage x ⟨s.ID,s.Epoch,s.Table.l,allOf s.Sessions⟩=some (decide (s.Table.l=x.Pairs∧allOf s.Sessions=x.Sess)):=by
    rw [sameI _ _ h1 h2]
    congr 1
    rw [decide_eq_decide]
    constructor
    · rintro ⟨_,_,a,b⟩; exact ⟨a.symm,b.symm⟩
    · rintro ⟨a,b⟩; exact ⟨e4.symm,e5.symm,a.symm,b.symm⟩
  rcases p2 with ⟨p2,_,rfl⟩ | ⟨p2,rfl⟩
  · have:¬ (s.Table.l=x.Pairs∧allOf s.Sessions=x.Sess):=by
      rintro ⟨a,_⟩
      have ok:=okP_of x.Pairs [] (fun p hp=>by simp at hp)
      rw [← e3,a] at ok
      rw [List.any_eq_true] at p2
      obtain ⟨y,y1,y2⟩:=p2
      rw [ok y y1] at y2
      cases y2
    rw [dec_f this]
    exact ⟨false,rfl,rfl⟩
  simp only [isL,cond_false,Option.bind_some]
  rcases q2 with ⟨q2,_,rfl⟩ | ⟨q2,rfl⟩
  · rw [q2]
    simp only [isL,cond_true,Bool.not_true]
    exact ⟨false,by cases decide (s.Table.l=x.Pairs∧allOf s.Sessions=x.Sess) <;> rfl,rfl⟩
  · rw [q2]
    simp only [isL,cond_false,Bool.not_false]
    rw [rimage_plain _ (by simp only [refOf]; omega) (by simp only [refOf]; omega),Option.bind_some]
    show ∃ b,_=some b∧(oR_SameImage x ⟨s.ID,s.Epoch,s.Table.l,allOf s.Sessions⟩).bind _=some b
    rw [fin]
    exact ⟨decide (s.Table.l=x.Pairs∧allOf s.Sessions=x.Sess),by cases decide (s.Table.l=x.Pairs∧allOf s.Sessions=x.Sess) <;> rfl,rfl⟩
theorem image_some (k epoch:Int) (l:List oH_RawOp) (bend:Int):∃ x,oH_Image k epoch l bend=some x∧x.Pairs.length≤9∧x.Sess.length≤9:=by
  obtain ⟨x1,h1⟩:=pick_any k 6 (by omega) (by omega)
  obtain ⟨x2,h2⟩:=pick_any epoch 6 (by omega) (by omega)
  have k6:((6:Nat):Int)=6:=rfl
  rw [k6] at h1 h2
  obtain ⟨s0,_,f2,_,_,_,f6⟩:=of_shard ⟨x1,IntKind.i64.wrap (1+x2),[],[]⟩ (by simp) (by simp)
  unfold oH_Image
  rw [h1,Option.bind_some,h2,Option.bind_some,f6,Option.bind_some]
  have loop:∃ e,oH_Image_L1 l bend (0,refOf s0)=some e∧∃ s,OkS s∧e=refOf s:=by
    refine loopX_inv (fun (s:Int × oR_Shard)=>12 - s.1.toNat) (fun s=>∃ (i:Nat) (t:shard_Shard),s=((i:Int),refOf t)∧i≤12∧OkS t) _ ?_ KK _ ⟨0,s0,rfl,by omega,f2⟩ (by have:=KK_big; simp only; omega)
    rintro s ⟨i,t,rfl,g1,g2⟩
    simp only [oH_Image_L1_s,oH_Image_J0]
    by_cases c:i < l.length
    case neg =>
      right
      rw [dec_f (by omega),cond_false]
      exact ⟨_,rfl,t,g2,rfl⟩
    by_cases c2:i < 12
    case neg =>
      right
      rw [dec_t (by omega),cond_true,dec_f (by omega),cond_false]
      exact ⟨_,rfl,t,g2,rfl⟩
    left
    rw [dec_t (by omega),cond_true,dec_t (by omega),cond_true,Option.bind_some]
    simp only [isL,cond_true]
    obtain ⟨y,hy⟩:=pick_any l[i].Kind 3 (by omega) (by omega)
    have hy:oH_Pick l[i].Kind 3=some y:=hy
    rw [getI_at c,Option.bind_some,hy,Option.bind_some]
    obtain ⟨r,hr⟩:=req_some ⟨(IntKind.i64.wrap (1+y)),l[i].Key,l[i].Value,l[i].Old,l[i].Client,l[i].Seq,0,l[i].Text⟩
    rw [hr,Option.bind_some]
    obtain ⟨a,b,t',_,t1,t2⟩:=ask_alike r t g2
    rw [t2,Option.bind_some,wrap_id (by omega) (by omega),succ_cast]
    exact ⟨_,rfl,⟨i+1,t',rfl,by omega,t1⟩,by simp only; omega⟩
  obtain ⟨e,e1,s,hs,rfl⟩:=loop
  have hT:(refOf s).T.L.length≤8:=hs.1.2
  have hS:(refOf s).S_.L.length≤4:=all_len s.Sessions
  rw [e1,Option.bind_some,rimage2_plain _ (by omega) (by omega),Option.bind_some]
  clear e1
  generalize (refOf s).T.L=L at *
  generalize (refOf s).S_.L=S at *
  obtain ⟨x3,h3⟩:=pick_any bend 14 (by omega) (by omega)
  obtain ⟨x4,h4⟩:=num_some (IntKind.i64.wrap (Int.tdiv bend 14))
  obtain ⟨x5,h5⟩:=key_some (IntKind.i64.wrap (Int.tdiv bend 14))
  obtain ⟨x6,h6⟩:=pick_any (IntKind.i64.wrap (Int.tdiv bend 14)) 14 (by omega) (by omega)
  have k14:((14:Nat):Int)=14:=rfl
  rw [k14] at h3 h6
  rw [h3,Option.bind_some,h4,h5,h6]
  simp only [Option.bind_some]
  cases (x3 == 8)
  case true=>exact ⟨_,rfl,by simp only; omega,by simp only; omega⟩
  cases (x3 == 9)
  case true=>exact ⟨_,rfl,by simp only; omega,by simp only; omega⟩
  simp only [cond_false]
  cases (x3 == 10)
  case true =>
    rw [cond_true,gd32 (by rw [List.length_append]; simp only [List.length_singleton]; omega)]
    exact ⟨_,rfl,by rw [List.length_append]; simp only [List.length_singleton]; omega,by simp only; omega⟩
  simp only [cond_false]
  cases (x3 == 11)
  case true =>
    rw [cond_true]
    by_cases c:S.length > 0
    · rw [dec_t (by omega),cond_true,show (0:Int)=((0:Nat):Int) from rfl,getI_at c,Option.bind_some]
      exact ⟨_,rfl,by simp only; omega,by rw [List.length_set]; omega⟩
    · rw [dec_f (by omega)]
      exact ⟨_,rfl,by simp only; omega,by simp only; omega⟩
  simp only [cond_false]
  cases (x3 == 12)
  case true =>
    rw [cond_true]
    by_cases c:L.length > 1
    · rw [dec_t (by omega),cond_true,show (0:Int)=((0:Nat):Int) from rfl,show (1:Int)=((1:Nat):Int) from rfl,getI_at (show 0 < L.length by omega),Option.bind_some,getI_at c,Option.bind_some,Option.bind_some,getI_at (by rw [List.length_set]; omega),Option.bind_some]
      exact ⟨_,rfl,by simp only [List.length_set]; omega,by simp only; omega⟩
    · rw [dec_f (by omega)]
      exact ⟨_,rfl,by simp only; omega,by simp only; omega⟩
  simp only [cond_false]
  cases (x3 == 13)
  · exact ⟨_,rfl,by simp only; omega,by simp only; omega⟩
  · exact ⟨_,rfl,by simp,by simp⟩
end Go.Proofs.Ytachollgbplikaa
