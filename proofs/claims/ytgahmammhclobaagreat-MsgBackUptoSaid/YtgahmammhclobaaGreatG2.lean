import Derived.Test.YtgahmammhclobaaGreatG1
set_option linter.all false
set_option linter.unusedSimpArgs false
namespace Go.Proofs.YtgahmammhclobaaGreat
theorem rimage_plain (s:oR_Shard) (h1:s.T.L.length≤100) (h2:s.S_.L.length≤100):oR_Shard_Image s=some ⟨s.ID,s.Epoch,s.T.L,s.S_.L⟩:=by
 unfold oR_Shard_Image
 rw [gd32 h1,gd_fits40 (by omega)]
theorem rimage2_plain (s:oR_Shard) (h1:s.T.L.length≤100) (h2:s.S_.L.length≤100):oR_Shard_Image_2 s=some (s.ID,s.Epoch,s.T.L,s.S_.L):=by
 unfold oR_Shard_Image_2
 rw [gd32 h1,gd_fits40 (by omega)]
theorem of_shard (x:api_Image) (h1:x.Pairs.length < 1000000000) (h2:x.Sess.length < 1000000000):∃ s,shard_Of x=some s∧OkS s∧s.Table.l=ofP [] x.Pairs∧s.ID=x.Shard∧s.Epoch=x.Epoch∧oR_ShardFrom x=some (refOf s):=by
 obtain ⟨S,e1,e2,e3⟩:=of_alike x.Sess h2
 refine ⟨⟨⟨ofP [] x.Pairs⟩,S,x.Shard,x.Epoch⟩, ?_,⟨ofP_ok _ _ ok0,e2⟩,rfl,rfl,rfl, ?_⟩
 ·unfold shard_Of
  rw [of_plain _ h1,Option.bind_some,e1]
  rfl
 ·unfold oR_ShardFrom
  rw [rof_plain _ h1,Option.bind_some,e3]
  rfl
theorem anyloop {α β:Type} (a:List α) (q:α→Bool) (hl:a.length < 1000000) (f:Int→Option (Int ⊕ (β ⊕ Unit))) (u:Nat→β)
  (hin:∀ (i:Nat) (h:i < a.length),f (i:Int)=cond (q a[i]) (some (.inr (.inl (u i)))) (some (.inl ((i+1:Nat):Int)))) (hout:f (a.length:Int)=some (.inr (.inr ()))) :
  ∃ e,loopX f KK 0=some e∧((a.any q=true∧∃ i,e=.inl (u i))∨(a.any q=false∧e=.inr ())):=by
 refine loopX_inv (fun s=>(a.length - s.toNat)) (fun s=>∃ i:Nat,s=(i:Int)∧i≤a.length∧a.any q=(a.drop i).any q) _ ?_ KK _ ⟨0,rfl,by omega,rfl⟩ (by have:=KK_big; omega)
 rintro s ⟨i,rfl,h1,h2⟩
 by_cases c:i < a.length
 ·rw [hin i c]
  rw [List.drop_eq_getElem_cons c,List.any_cons] at h2
  cases e:q a[i]
  ·left
   rw [e,Bool.false_or] at h2
   exact ⟨_,rfl,⟨i+1,rfl,by omega,h2⟩,by omega⟩
  ·right
   rw [e,Bool.true_or] at h2
   exact ⟨_,rfl,.inl ⟨h2,i,rfl⟩⟩
 ·right
  obtain rfl:i=a.length:=by omega
  rw [hout]
  rw [List.drop_of_length_le (Nat.le_refl _),List.any_nil] at h2
  exact ⟨_,rfl,.inr ⟨h2,rfl⟩⟩
theorem zip_any {α:Type} (eqv:α→α→Bool) (he:∀ x y,eqv x y=true↔x=y):∀ a b:List α,a.length=b.length→((a.zip b).any (fun p=>!(eqv p.1 p.2))=false↔a=b)
 | [],[],_=>by simp
 | [],_ :: _,h=>by simp at h
 | _ :: _,[],h=>by simp at h
 | x :: a,y :: b,h=>by
  have ih:=zip_any eqv he a b (by simpa using h)
  rw [List.zip_cons_cons,List.any_cons,Bool.or_eq_false_iff,ih]
  simp only [Bool.not_eq_false',he]
  constructor
  ·rintro ⟨rfl,rfl⟩; rfl
  ·intro e; injection e with e1 e2; exact ⟨e1,e2⟩
theorem eqloop {α:Type} [DecidableEq α] (a b:List α) (eqv:α→α→Bool) (he:∀ x y,eqv x y=true↔x=y) (hl:a.length < 1000000) (hab:a.length=b.length) (f:Int→Option (Int ⊕ (Unit ⊕ Unit)))
  (hf:∀ s3,f s3=cond (decide (s3 < (a.length:Int))) ((getI a s3).bind fun (x4:α)=>(getI b s3).bind fun (x5:α)=>cond (!(eqv x4 x5)) (some (.inr (.inl ()))) (some (.inl (IntKind.i64.wrap (s3+1))))) (some (.inr (.inr ())))) :
  ∃ e,loopX f KK 0=some e∧isL e=decide (a≠b):=by
 have hz:(a.zip b).length=a.length:=by rw [List.length_zip]; omega
 obtain ⟨e,e1,e2⟩:=anyloop (a.zip b) (fun p=>!(eqv p.1 p.2)) (by omega) f (fun _=>()) (fun i h=>by
  have ha:i < a.length:=by omega
  have hb:i < b.length:=by omega
  rw [hf,dec_t (by omega),cond_true,getI_at ha,Option.bind_some,getI_at hb,Option.bind_some,wrap_id (by omega) (by omega),succ_cast,List.getElem_zip]) (by
  rw [hf,hz,dec_f (by omega),cond_false])
 refine ⟨e,e1, ?_⟩
 have z:=zip_any eqv he a b hab
 rcases e2 with ⟨q,i,rfl⟩ | ⟨q,rfl⟩
 ·have:a≠b:=fun h=>by rw [z.2 h] at q; cases q
  rw [dec_t this]; rfl
 ·rw [dec_f (by rw [z.1 q]; simp)]; rfl
theorem pair_eqv (x y:api_Pair):(x.Key == y.Key && (x.Value == y.Value && true))=true↔x=y:=by
 obtain ⟨a,b⟩:=x; obtain ⟨c,d⟩:=y
 simp
theorem sess_eqv (x y:api_Sess):(x.Client == y.Client && (x.Seq == y.Seq && (x.Answer.Why == y.Answer.Why && (x.Answer.Value == y.Answer.Value && true))))=true↔x=y:=by
 obtain ⟨a,b,c,d⟩:=x; obtain ⟨e,f,g,h⟩:=y
 simp
instance:DecidableEq api_Pair:=fun a b=>decidable_of_iff _ (pair_eqv a b)
instance:DecidableEq api_Sess:=fun a b=>decidable_of_iff _ (sess_eqv a b)
theorem equalP (a b:List api_Pair) (h:a.length < 1000000):slices_Equal_api_Pair_api_Pair a b=some (decide (a=b)):=by
 unfold slices_Equal_api_Pair_api_Pair
 by_cases c:a.length=b.length
 ·rw [bne_f (by omega),cond_false]
  obtain ⟨e,e1,e2⟩:=eqloop a b _ pair_eqv h c (slices_Equal_api_Pair_api_Pair_L0_s a b) (fun _=>rfl)
  unfold slices_Equal_api_Pair_api_Pair_L0
  rw [e1,Option.bind_some,e2]
  by_cases q:a=b <;> simp [q]
 ·rw [bne_t (by omega),dec_f (fun e=>c (by rw [e]))]; rfl
theorem equalS (a b:List api_Sess) (h:a.length < 1000000):slices_Equal_api_Sess_api_Sess a b=some (decide (a=b)):=by
 unfold slices_Equal_api_Sess_api_Sess
 by_cases c:a.length=b.length
 ·rw [bne_f (by omega),cond_false]
  obtain ⟨e,e1,e2⟩:=eqloop a b _ sess_eqv h c (slices_Equal_api_Sess_api_Sess_L0_s a b) (fun _=>rfl)
  unfold slices_Equal_api_Sess_api_Sess_L0
  rw [e1,Option.bind_some,e2]
  by_cases q:a=b <;> simp [q]
 ·rw [bne_t (by omega),dec_f (fun e=>c (by rw [e]))]; rfl
theorem sameI (a b:api_Image) (h1:a.Pairs.length < 1000000) (h2:a.Sess.length < 1000000):oR_SameImage a b=some (decide (a.Shard=b.Shard∧a.Epoch=b.Epoch∧a.Pairs=b.Pairs∧a.Sess=b.Sess)):=by
 unfold oR_SameImage oR_SameImage_J0
 by_cases c1:a.Shard=b.Shard
 case neg=>rw [bne_t c1,dec_f (fun e=>c1 e.1)]; rfl
 rw [bne_f c1,cond_false]
 by_cases c2:a.Epoch=b.Epoch
 case neg=>rw [bne_t c2,dec_f (fun e=>c2 e.2.1)]; rfl
 rw [bne_f c2,cond_false]
 by_cases c3:a.Pairs.length=b.Pairs.length
 case neg=>rw [bne_t (by omega),dec_f (fun e=>c3 (by rw [e.2.2.1]))]; rfl
 rw [bne_f (by omega),cond_false]
 by_cases c4:a.Sess.length=b.Sess.length
 case neg=>rw [bne_t (by omega),dec_f (fun e=>c4 (by rw [e.2.2.2]))]; rfl
 rw [bne_f (by omega),cond_false,Option.bind_some]
 simp only [isL,cond_false]
 obtain ⟨e,e1,e2⟩:=eqloop a.Pairs b.Pairs _ pair_eqv h1 c3 (oR_SameImage_L1_s a b) (fun _=>rfl)
 obtain ⟨e',e1',e2'⟩:=eqloop a.Sess b.Sess _ sess_eqv h2 c4 (oR_SameImage_L2_s a b) (fun _=>rfl)
 unfold oR_SameImage_L1 oR_SameImage_L2
 rw [e1,Option.bind_some]
 show cond (isL e) _ _=_
 rw [e2,e1',Option.bind_some]
 show cond _ _ (cond (isL e') _ _)=_
 rw [e2']
 by_cases p:a.Pairs=b.Pairs <;> by_cases q:a.Sess=b.Sess <;> simp [p,q,c1,c2]
theorem answered_plain (y:api_Sess):shard_answered y=some (ansP y):=by
 unfold shard_answered shard_answered_J0 ansP
 simp only [ibeq]
 by_cases a:y.Answer.Why=0 <;> by_cases b:y.Answer.Why=4 <;> by_cases c:y.Answer.Why=5 <;> by_cases d:y.Answer.Why=6 <;> by_cases e:y.Answer.Value.length≤16 <;>
  simp [a,b,c,d,e,show ((y.Answer.Value.length:Int)≤16)↔y.Answer.Value.length≤16 by omega]
theorem contains_plain (L:List api_Sess) (h:L.length < 1000000):slices_ContainsFunc_api_Sess_api_Sess L=some (L.any fun y=>!ansP y):=by
 obtain ⟨e,e1,e2⟩:=anyloop L (fun y=>!ansP y) h (slices_IndexFunc_api_Sess_api_Sess_L0_s L) (fun i=>(i:Int)) (fun i hi=>by
  unfold slices_IndexFunc_api_Sess_api_Sess_L0_s shard_Right_1
  rw [dec_t (by omega),cond_true,getI_at hi,Option.bind_some,answered_plain,Option.bind_some,Option.bind_some,wrap_id (by omega) (by omega),succ_cast]) (by
  unfold slices_IndexFunc_api_Sess_api_Sess_L0_s
  rw [dec_f (by omega),cond_false])
 unfold slices_ContainsFunc_api_Sess_api_Sess slices_IndexFunc_api_Sess_api_Sess slices_IndexFunc_api_Sess_api_Sess_L0
 rw [e1,Option.bind_some]
 rcases e2 with ⟨q,i,rfl⟩ | ⟨q,rfl⟩
 ·rw [q]
  simp only [isL,getL,cond_true,Option.bind_some]
  rw [dec_t (by omega)]
 ·rw [q]; rfl
def ofS (l:List api_Sess):session_Sessions:=l.foldl noteS zeroS
theorem ofS_good (l:List api_Sess):GoodS (ofS l):=fold_good l _ ⟨.inl rfl,.inl rfl,.inl rfl,.inl rfl⟩
theorem ofS_plain (l:List api_Sess) (h:l.length < 1000000000):session_OfAll l=some (ofS l):=by
 have g0:GoodS zeroS:=⟨.inl rfl,.inl rfl,.inl rfl,.inl rfl⟩
 unfold session_OfAll
 have key:session_OfAll_L0 l (0,zeroS)=some (l.foldl noteS zeroS):=by
  refine loop_run (fun i=>((i:Int),(l.take i).foldl noteS zeroS)) l.length _ (fun i hi=>?_) ?_ (by omega)
  ·obtain ⟨⟨b,e1,_⟩,_⟩:=noteS_good l[i] _ (fold_good (l.take i) _ g0)
   unfold session_OfAll_L0_s
   simp only
   rw [dec_t (by omega),cond_true,getI_at hi,Option.bind_some,e1,Option.bind_some,wrap_id (by omega) (by omega),succ_cast,List.take_succ_eq_append_getElem hi,List.foldl_append]
   rfl
  ·unfold session_OfAll_L0_s
   simp only
   rw [dec_f (by omega),cond_false,List.take_length]
 have e:(0,zeroS)=((0:Int),(⟨(⟨(⟨0,0,(⟨0,([]:List UInt8)⟩:api_Answer)⟩:api_Sess),(⟨0,0,(⟨0,([]:List UInt8)⟩:api_Answer)⟩:api_Sess),(⟨0,0,(⟨0,([]:List UInt8)⟩:api_Answer)⟩:api_Sess),(⟨0,0,(⟨0,([]:List UInt8)⟩:api_Answer)⟩:api_Sess)⟩:A4 api_Sess)⟩:session_Sessions)):=rfl
 rw [← e,key]
 rfl
def RightI (x:api_Image):Prop:=0≤x.Shard∧x.Shard < 6∧1≤x.Epoch∧x.Epoch≤1099511627776∧ofP [] x.Pairs=x.Pairs∧allOf (ofS x.Sess)=x.Sess∧(x.Sess.any fun y=>!ansP y)=false
instance (x:api_Image):Decidable (RightI x):=by unfold RightI; infer_instance
theorem right_is (x:api_Image) (h1:x.Pairs.length < 1000000) (h2:x.Sess.length < 1000000):shard_Right x=some (decide (RightI x)):=by
 unfold shard_Right shard_Right_J0
 by_cases a1:x.Shard < 0
 ·rw [dec_t a1,dec_f (show ¬ RightI x by rintro ⟨p,_⟩; omega)]; rfl
 rw [dec_f a1,cond_false]
 by_cases a2:x.Shard ≥ 6
 ·rw [dec_t a2,dec_f (show ¬ RightI x by rintro ⟨_,p,_⟩; omega)]; rfl
 rw [dec_f a2,cond_false]
 by_cases a3:x.Epoch < 1
 ·rw [dec_t a3,dec_f (show ¬ RightI x by rintro ⟨_,_,p,_⟩; omega)]; rfl
 rw [dec_f a3,cond_false]
 by_cases a4:x.Epoch > 1099511627776
 ·rw [dec_t a4,dec_f (show ¬ RightI x by rintro ⟨_,_,_,p,_⟩; omega)]; rfl
 rw [dec_f a4,cond_false,Option.bind_some]
 simp only [isL,cond_false]
 have hT:(ofP [] x.Pairs).length≤8:=(ofP_ok _ _ ok0).2
 have hS:=all_len (ofS x.Sess)
 have e:shard_Of x=some ⟨⟨ofP [] x.Pairs⟩,ofS x.Sess,x.Shard,x.Epoch⟩:=by
  unfold shard_Of
  rw [of_plain _ (by omega),Option.bind_some,ofS_plain _ (by omega)]
  rfl
 have j1:shard_Right_J1 ⟨⟨ofP [] x.Pairs⟩,ofS x.Sess,x.Shard,x.Epoch⟩ x=some (decide (ofP [] x.Pairs=x.Pairs∧allOf (ofS x.Sess)=x.Sess)):=by
  unfold shard_Right_J1 table_Table_Pairs
  rw [gd32 (by simp only; omega),Option.bind_some,equalP _ _ (by simp only; omega),Option.bind_some,all_plain,Option.bind_some,equalS _ _ (by simp only; omega),Option.bind_some]
  by_cases a:ofP [] x.Pairs=x.Pairs <;> by_cases b:allOf (ofS x.Sess)=x.Sess <;> simp [a,b]
 rw [e,Option.bind_some,j1,Option.bind_some,contains_plain _ h2,Option.bind_some]
 by_cases b1:ofP [] x.Pairs=x.Pairs
 case neg=>rw [dec_f (show ¬ (ofP [] x.Pairs=x.Pairs∧_) by rintro ⟨p,_⟩; exact b1 p),dec_f (show ¬ RightI x by rintro ⟨_,_,_,_,p,_⟩; exact b1 p)]; rfl
 by_cases b2:allOf (ofS x.Sess)=x.Sess
 case neg=>rw [dec_f (show ¬ (ofP [] x.Pairs=x.Pairs∧_) by rintro ⟨_,p⟩; exact b2 p),dec_f (show ¬ RightI x by rintro ⟨_,_,_,_,_,p,_⟩; exact b2 p)]; rfl
 rw [dec_t (show (ofP [] x.Pairs=x.Pairs∧_) from ⟨b1,b2⟩),cond_true]
 cases b3:(x.Sess.any fun y=>!ansP y)
 ·rw [dec_t (show RightI x from ⟨by omega,by omega,by omega,by omega,b1,b2,b3⟩)]; rfl
 ·rw [dec_f (show ¬ RightI x by rintro ⟨_,_,_,_,_,_,p⟩; rw [b3] at p; cases p)]; rfl
end Go.Proofs.YtgahmammhclobaaGreat
