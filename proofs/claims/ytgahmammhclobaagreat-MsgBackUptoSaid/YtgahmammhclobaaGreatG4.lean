import Derived.Test.YtgahmammhclobaaGreatG3
set_option linter.all false
set_option linter.unusedSimpArgs false
set_option maxRecDepth 100000
namespace Go.Proofs.YtgahmammhclobaaGreat
theorem from0 (a b:Int):oR_ShardFrom ⟨a,b,[],[]⟩=some (refOf ⟨⟨[]⟩,zeroS,a,b⟩):=by
 unfold oR_ShardFrom
 rw [rof_plain _ (by simp)]
 obtain ⟨S,e1,_,e3⟩:=of_alike [] (by simp)
 have e1':session_OfAll []=some zeroS:=by rw [ofS_plain _ (by simp)]; rfl
 rw [e1'] at e1
 rw [← Option.some.inj e1] at e3
 rw [e3]
 rfl
theorem image_some (k epoch:Int) (l:List oH_RawOp) (bend:Int):∃ x,oH_Image k epoch l bend=some x∧x.Pairs.length≤9∧x.Sess.length≤9:=by
 obtain ⟨x1,h1⟩:=pick_any k 6 (by omega) (by omega)
 obtain ⟨x2,h2⟩:=pick_any epoch 6 (by omega) (by omega)
 have k6:((6:Nat):Int)=6:=rfl
 rw [k6] at h1 h2
 have hz:OkI ⟨⟨[]⟩,zeroS,x1,IntKind.i64.wrap (1+x2)⟩:=⟨⟨ok0,⟨.inl rfl,.inl rfl,.inl rfl,.inl rfl⟩⟩,(fun p hp=>by simp at hp),fun y hy=>by simp [allOf,zeroS,A4.toL,noneS] at hy⟩
 have f6:=from0 x1 (IntKind.i64.wrap (1+x2))
 unfold oH_Image
 rw [h1,Option.bind_some,h2,Option.bind_some,f6,Option.bind_some]
 have loop:∃ e,oH_Image_L1 l bend (0,refOf ⟨⟨[]⟩,zeroS,x1,IntKind.i64.wrap (1+x2)⟩)=some e∧∃ s,OkI s∧e=refOf s:=by
  refine loopX_inv (fun (s:Int × oR_Shard)=>12 - s.1.toNat) (fun s=>∃ (i:Nat) (t:shard_Shard),s=((i:Int),refOf t)∧i≤12∧OkI t) _ ?_ KK _ ⟨0,_,rfl,by omega,hz⟩ (by have:=KK_big; simp only; omega)
  rintro s ⟨i,t,rfl,g1,g2⟩
  simp only [oH_Image_L1_s,oH_Image_J0]
  by_cases c:i < l.length
  case neg =>
   right
   rw [dec_f (by omega),cond_false]
   exact ⟨_,rfl,t,g2,rfl⟩
  by_cases c2:i < 12
  case neg =>
   right
   rw [dec_t (by omega),cond_true,dec_f (by omega),cond_false]
   exact ⟨_,rfl,t,g2,rfl⟩
  left
  rw [dec_t (by omega),cond_true,dec_t (by omega),cond_true,Option.bind_some]
  simp only [isL,cond_true]
  obtain ⟨y,hy⟩:=pick_any l[i].Kind 3 (by omega) (by omega)
  have hy:oH_Pick l[i].Kind 3=some y:=hy
  rw [getI_at c,Option.bind_some,hy,Option.bind_some]
  obtain ⟨r,hr⟩:=req_some ⟨(IntKind.i64.wrap (1+y)),l[i].Key,l[i].Value,l[i].Old,l[i].Client,l[i].Seq,0,l[i].Text⟩
  rw [hr,Option.bind_some]
  obtain ⟨a,b,t',t2,t1,_,_⟩:=ask_ref r t g2
  rw [t2,Option.bind_some,wrap_id (by omega) (by omega),succ_cast]
  exact ⟨_,rfl,⟨i+1,t',rfl,by omega,t1⟩,by simp only; omega⟩
 obtain ⟨e,e1,s,hs,rfl⟩:=loop
 have hT:(refOf s).T.L.length≤8:=hs.1.1.2
 have hS:(refOf s).S_.L.length≤4:=all_len s.Sessions
 rw [e1,Option.bind_some,rimage2_plain _ (by omega) (by omega),Option.bind_some]
 clear e1
 generalize (refOf s).T.L=L at *
 generalize (refOf s).S_.L=S at *
 obtain ⟨x3,h3⟩:=pick_any bend 14 (by omega) (by omega)
 obtain ⟨x4,h4⟩:=num_some (IntKind.i64.wrap (Int.tdiv bend 14))
 obtain ⟨x5,h5⟩:=key_some (IntKind.i64.wrap (Int.tdiv bend 14))
 obtain ⟨x6,h6⟩:=pick_any (IntKind.i64.wrap (Int.tdiv bend 14)) 14 (by omega) (by omega)
 have k14:((14:Nat):Int)=14:=rfl
 rw [k14] at h3 h6
 rw [h3,Option.bind_some,h4,h5,h6]
 simp only [Option.bind_some]
 cases (x3 == 8)
 case true=>exact ⟨_,rfl,by simp only; omega,by simp only; omega⟩
 cases (x3 == 9)
 case true=>exact ⟨_,rfl,by simp only; omega,by simp only; omega⟩
 simp only [cond_false]
 cases (x3 == 10)
 case true =>
  rw [cond_true,gd32 (by rw [List.length_append]; simp only [List.length_singleton]; omega)]
  exact ⟨_,rfl,by rw [List.length_append]; simp only [List.length_singleton]; omega,by simp only; omega⟩
 simp only [cond_false]
 cases (x3 == 11)
 case true =>
  rw [cond_true]
  by_cases c:S.length > 0
  ·rw [dec_t (by omega),cond_true,show (0:Int)=((0:Nat):Int) from rfl,getI_at c,Option.bind_some]
   exact ⟨_,rfl,by simp only; omega,by rw [List.length_set]; omega⟩
  ·rw [dec_f (by omega)]
   exact ⟨_,rfl,by simp only; omega,by simp only; omega⟩
 simp only [cond_false]
 cases (x3 == 12)
 case true =>
  rw [cond_true]
  by_cases c:L.length > 1
  ·rw [dec_t (by omega),cond_true,show (0:Int)=((0:Nat):Int) from rfl,show (1:Int)=((1:Nat):Int) from rfl,getI_at (show 0 < L.length by omega),Option.bind_some,getI_at c,Option.bind_some,Option.bind_some,getI_at (by rw [List.length_set]; omega),Option.bind_some]
   exact ⟨_,rfl,by simp only [List.length_set]; omega,by simp only; omega⟩
  ·rw [dec_f (by omega)]
   exact ⟨_,rfl,by simp only; omega,by simp only; omega⟩
 simp only [cond_false]
 cases (x3 == 13)
 ·exact ⟨_,rfl,by simp only; omega,by simp only; omega⟩
 ·exact ⟨_,rfl,by simp,by simp⟩
theorem image2_some (k epoch:Int) (l:List oH_RawOp) (bend:Int):∃ x,oH_Image_2 k epoch l bend=some x∧x.2.2.1.length≤9∧x.2.2.2.length≤9:=by
 obtain ⟨x1,h1⟩:=pick_any k 6 (by omega) (by omega)
 obtain ⟨x2,h2⟩:=pick_any epoch 6 (by omega) (by omega)
 have k6:((6:Nat):Int)=6:=rfl
 rw [k6] at h1 h2
 have hz:OkI ⟨⟨[]⟩,zeroS,x1,IntKind.i64.wrap (1+x2)⟩:=⟨⟨ok0,⟨.inl rfl,.inl rfl,.inl rfl,.inl rfl⟩⟩,(fun p hp=>by simp at hp),fun y hy=>by simp [allOf,zeroS,A4.toL,noneS] at hy⟩
 have f6:=from0 x1 (IntKind.i64.wrap (1+x2))
 unfold oH_Image_2
 rw [h1,Option.bind_some,h2,Option.bind_some,f6,Option.bind_some]
 have loop:∃ e,oH_Image_2_L1 l bend (0,refOf ⟨⟨[]⟩,zeroS,x1,IntKind.i64.wrap (1+x2)⟩)=some e∧∃ s,OkI s∧e=refOf s:=by
  refine loopX_inv (fun (s:Int × oR_Shard)=>12 - s.1.toNat) (fun s=>∃ (i:Nat) (t:shard_Shard),s=((i:Int),refOf t)∧i≤12∧OkI t) _ ?_ KK _ ⟨0,_,rfl,by omega,hz⟩ (by have:=KK_big; simp only; omega)
  rintro s ⟨i,t,rfl,g1,g2⟩
  simp only [oH_Image_2_L1_s,oH_Image_2_J0]
  by_cases c:i < l.length
  case neg =>
   right
   rw [dec_f (by omega),cond_false]
   exact ⟨_,rfl,t,g2,rfl⟩
  by_cases c2:i < 12
  case neg =>
   right
   rw [dec_t (by omega),cond_true,dec_f (by omega),cond_false]
   exact ⟨_,rfl,t,g2,rfl⟩
  left
  rw [dec_t (by omega),cond_true,dec_t (by omega),cond_true,Option.bind_some]
  simp only [isL,cond_true]
  obtain ⟨y,hy⟩:=pick_any l[i].Kind 3 (by omega) (by omega)
  have hy:oH_Pick l[i].Kind 3=some y:=hy
  rw [getI_at c,Option.bind_some,hy,Option.bind_some]
  obtain ⟨r,hr⟩:=req_some ⟨(IntKind.i64.wrap (1+y)),l[i].Key,l[i].Value,l[i].Old,l[i].Client,l[i].Seq,0,l[i].Text⟩
  rw [hr,Option.bind_some]
  obtain ⟨a,b,t',t2,t1,_,_⟩:=ask_ref r t g2
  rw [t2,Option.bind_some,wrap_id (by omega) (by omega),succ_cast]
  exact ⟨_,rfl,⟨i+1,t',rfl,by omega,t1⟩,by simp only; omega⟩
 obtain ⟨e,e1,s,hs,rfl⟩:=loop
 have hT:(refOf s).T.L.length≤8:=hs.1.1.2
 have hS:(refOf s).S_.L.length≤4:=all_len s.Sessions
 rw [e1,Option.bind_some,rimage2_plain _ (by omega) (by omega),Option.bind_some]
 clear e1
 generalize (refOf s).T.L=L at *
 generalize (refOf s).S_.L=S at *
 obtain ⟨x3,h3⟩:=pick_any bend 14 (by omega) (by omega)
 obtain ⟨x4,h4⟩:=num_some (IntKind.i64.wrap (Int.tdiv bend 14))
 obtain ⟨x5,h5⟩:=key_some (IntKind.i64.wrap (Int.tdiv bend 14))
 obtain ⟨x6,h6⟩:=pick_any (IntKind.i64.wrap (Int.tdiv bend 14)) 14 (by omega) (by omega)
 have k14:((14:Nat):Int)=14:=rfl
 rw [k14] at h3 h6
 rw [h3,Option.bind_some,h4,h5,h6]
 simp only [Option.bind_some]
 cases (x3 == 8)
 case true=>exact ⟨_,rfl,by simp only; omega,by simp only; omega⟩
 cases (x3 == 9)
 case true=>exact ⟨_,rfl,by simp only; omega,by simp only; omega⟩
 simp only [cond_false]
 cases (x3 == 10)
 case true =>
  rw [cond_true,gd32 (by rw [List.length_append]; simp only [List.length_singleton]; omega)]
  exact ⟨_,rfl,by rw [List.length_append]; simp only [List.length_singleton]; omega,by simp only; omega⟩
 simp only [cond_false]
 cases (x3 == 11)
 case true =>
  rw [cond_true]
  by_cases c:S.length > 0
  ·rw [dec_t (by omega),cond_true,show (0:Int)=((0:Nat):Int) from rfl,getI_at c,Option.bind_some]
   exact ⟨_,rfl,by simp only; omega,by rw [List.length_set]; omega⟩
  ·rw [dec_f (by omega)]
   exact ⟨_,rfl,by simp only; omega,by simp only; omega⟩
 simp only [cond_false]
 cases (x3 == 12)
 case true =>
  rw [cond_true]
  by_cases c:L.length > 1
  ·rw [dec_t (by omega),cond_true,show (0:Int)=((0:Nat):Int) from rfl,show (1:Int)=((1:Nat):Int) from rfl,getI_at (show 0 < L.length by omega),Option.bind_some,getI_at c,Option.bind_some,Option.bind_some,getI_at (by rw [List.length_set]; omega),Option.bind_some]
   exact ⟨_,rfl,by simp only [List.length_set]; omega,by simp only; omega⟩
  ·rw [dec_f (by omega)]
   exact ⟨_,rfl,by simp only; omega,by simp only; omega⟩
 simp only [cond_false]
 cases (x3 == 13)
 ·exact ⟨_,rfl,by simp only; omega,by simp only; omega⟩
 ·exact ⟨_,rfl,by simp,by simp⟩
end Go.Proofs.YtgahmammhclobaaGreat
