import Derived.Test.YtachollgbplikaaE1
set_option linter.all false
set_option linter.unusedSimpArgs false
namespace Go.Proofs.Ytachollgbplikaa
def refOf (s:shard_Shard):oR_Shard:=⟨⟨s.Table.l⟩,⟨allOf s.Sessions⟩,s.ID,s.Epoch⟩
def OkS (s:shard_Shard):Prop:=OkT s.Table.l∧GoodS s.Sessions
def rightR (r:api_Req):Prop:=0≤r.Client∧r.Client < 4∧1≤r.Seq∧r.Seq≤4611686018427387903∧rightP r.Op=true
instance (r:api_Req):Decidable (rightR r):=by unfold rightR; infer_instance
theorem j0_plain (r:api_Req) (s:shard_Shard):shard_Shard_Ask_J0 r s=some (if rightR r then .inr () else .inl ()):=by
  unfold shard_Shard_Ask_J0
  by_cases h1:r.Client < 0
  · rw [dec_t h1,if_neg (by unfold rightR; omega)]; rfl
  rw [dec_f h1,cond_false]
  by_cases h2:r.Client ≥ 4
  · rw [dec_t h2,if_neg (by unfold rightR; omega)]; rfl
  rw [dec_f h2,cond_false]
  by_cases h3:r.Seq < 1
  · rw [dec_t h3,if_neg (by unfold rightR; omega)]; rfl
  rw [dec_f h3,cond_false]
  by_cases h4:r.Seq > 4611686018427387903
  · rw [dec_t h4,if_neg (by unfold rightR; omega)]; rfl
  rw [dec_f h4,cond_false,right_plain,Option.bind_some]
  cases h5:rightP r.Op
  · rw [if_neg (by unfold rightR; rw [h5]; simp)]; rfl
  · rw [if_pos (by unfold rightR; exact ⟨by omega,by omega,by omega,by omega,h5⟩)]; rfl
theorem rreq_plain (r:api_Req):oR_RightReq r=some (decide (rightR r)):=by
  unfold oR_RightReq
  by_cases h1:r.Client ≥ 0
  case neg=>rw [dec_f h1,dec_f (show ¬ rightR r by unfold rightR; omega)]; rfl
  rw [dec_t h1,cond_true]
  by_cases h2:r.Client < 4
  case neg=>rw [dec_f h2,dec_f (show ¬ rightR r by unfold rightR; omega)]; rfl
  rw [dec_t h2,cond_true]
  by_cases h3:r.Seq ≥ 1
  case neg=>rw [dec_f h3,dec_f (show ¬ rightR r by unfold rightR; omega)]; rfl
  rw [dec_t h3,cond_true]
  by_cases h4:r.Seq≤4611686018427387903
  case neg=>rw [dec_f h4,dec_f (show ¬ rightR r by unfold rightR; omega)]; rfl
  rw [dec_t h4,cond_true,rright_plain,Option.bind_some]
  cases h5:rightP r.Op
  · rw [dec_f (show ¬ rightR r by unfold rightR; rw [h5]; simp)]
  · rw [dec_t (show rightR r by unfold rightR; exact ⟨by omega,by omega,by omega,by omega,h5⟩)]
theorem ask_alike (r:api_Req) (s:shard_Shard) (h:OkS s):∃ a b s',shard_Shard_Ask r s=some (a,b,s')∧OkS s'∧oR_Shard_Ask r (refOf s)=some (a,b,refOf s'):=by
  obtain ⟨T,S,i,e⟩:=s
  obtain ⟨hT,hS⟩:=h
  simp only at hT hS
  unfold shard_Shard_Ask oR_Shard_Ask
  rw [j0_plain,Option.bind_some,rreq_plain,Option.bind_some]
  by_cases hr:rightR r
  case neg =>
    rw [if_neg hr,dec_f hr]
    exact ⟨⟨1,[]⟩,false,⟨T,S,i,e⟩,rfl,⟨hT,hS⟩,rfl⟩
  rw [if_pos hr,dec_t hr]
  simp only [isL,cond_false,Bool.not_true]
  have hl:=all_len S
  rw [last_alike r.Client T S i e hS,Option.bind_some,last3_plain _ _ (by simp only [refOf]; omega),Option.bind_some]
  have q:(lastOf r.Client (refOf ⟨T,S,i,e⟩).S_.L)=(lastOf r.Client (allOf S)):=rfl
  rw [q]
  generalize lastOf r.Client (allOf S)=la
  cases h1:(r.Seq == la.1.Seq)
  case true=>exact ⟨la.1.Answer,false,⟨T,S,i,e⟩,by rfl,⟨hT,hS⟩,by rfl⟩
  simp only [cond_false]
  cases h2:decide (r.Seq < la.1.Seq)
  case true=>exact ⟨⟨9,[]⟩,false,⟨T,S,i,e⟩,by rfl,⟨hT,hS⟩,by rfl⟩
  simp only [cond_false]
  rw [do4_plain _ _ hT,Option.bind_some,rdo4_plain _ _ hT,Option.bind_some,noteS2]
  obtain ⟨⟨b,e1,e2⟩,e3⟩:=noteS_good ⟨r.Client,r.Seq,(doP r.Op T.l).1⟩ S hS
  simp only [refOf]
  rw [e1,note3_plain _ _ (by simp only; omega)]
  simp only [e2,Option.bind_some]
  exact ⟨_,_,⟨⟨(doP r.Op T.l).2⟩,noteS S ⟨r.Client,r.Seq,(doP r.Op T.l).1⟩,i,e⟩,rfl,⟨do_ok hT _,e3⟩,rfl⟩
theorem image_plain (s:shard_Shard) (h:OkS s):shard_Shard_Image s=some ⟨s.ID,s.Epoch,s.Table.l,allOf s.Sessions⟩:=by
  unfold shard_Shard_Image table_Table_Pairs_3
  rw [gd32 (by have:=h.1.2; omega),Option.bind_some,all_plain]
  rfl
theorem rimage_plain (s:oR_Shard) (h1:s.T.L.length≤100) (h2:s.S_.L.length≤100):oR_Shard_Image s=some ⟨s.ID,s.Epoch,s.T.L,s.S_.L⟩:=by
  unfold oR_Shard_Image
  rw [gd32 h1,gd_fits40 (by omega)]
theorem rimage2_plain (s:oR_Shard) (h1:s.T.L.length≤100) (h2:s.S_.L.length≤100):oR_Shard_Image_2 s=some (s.ID,s.Epoch,s.T.L,s.S_.L):=by
  unfold oR_Shard_Image_2
  rw [gd32 h1,gd_fits40 (by omega)]
theorem of_shard (x:api_Image) (h1:x.Pairs.length < 1000000000) (h2:x.Sess.length < 1000000000):∃ s,shard_Of x=some s∧OkS s∧s.Table.l=ofP [] x.Pairs∧s.ID=x.Shard∧s.Epoch=x.Epoch∧oR_ShardFrom x=some (refOf s):=by
  obtain ⟨S,e1,e2,e3⟩:=of_alike x.Sess h2
  refine ⟨⟨⟨ofP [] x.Pairs⟩,S,x.Shard,x.Epoch⟩, ?_,⟨ofP_ok _ _ ok0,e2⟩,rfl,rfl,rfl, ?_⟩
  · unfold shard_Of
    rw [of_plain _ h1,Option.bind_some,e1]
    rfl
  · unfold oR_ShardFrom
    rw [rof_plain _ h1,Option.bind_some,e3]
    rfl
theorem anyloop {α β:Type} (a:List α) (q:α→Bool) (hl:a.length < 1000000) (f:Int→Option (Int ⊕ (β ⊕ Unit))) (u:Nat→β)
    (hin:∀ (i:Nat) (h:i < a.length),f (i:Int)=cond (q a[i]) (some (.inr (.inl (u i)))) (some (.inl ((i+1:Nat):Int)))) (hout:f (a.length:Int)=some (.inr (.inr ()))) :
    ∃ e,loopX f KK 0=some e∧((a.any q=true∧∃ i,e=.inl (u i))∨(a.any q=false∧e=.inr ())):=by
  refine loopX_inv (fun s=>(a.length - s.toNat)) (fun s=>∃ i:Nat,s=(i:Int)∧i≤a.length∧a.any q=(a.drop i).any q) _ ?_ KK _ ⟨0,rfl,by omega,rfl⟩ (by have:=KK_big; omega)
  rintro s ⟨i,rfl,h1,h2⟩
  by_cases c:i < a.length
  · rw [hin i c]
    rw [List.drop_eq_getElem_cons c,List.any_cons] at h2
    cases e:q a[i]
    · left
      rw [e,Bool.false_or] at h2
      exact ⟨_,rfl,⟨i+1,rfl,by omega,h2⟩,by omega⟩
    · right
      rw [e,Bool.true_or] at h2
      exact ⟨_,rfl,.inl ⟨h2,i,rfl⟩⟩
  · right
    obtain rfl:i=a.length:=by omega
    rw [hout]
    rw [List.drop_of_length_le (Nat.le_refl _),List.any_nil] at h2
    exact ⟨_,rfl,.inr ⟨h2,rfl⟩⟩
theorem zip_any {α:Type} (eqv:α→α→Bool) (he:∀ x y,eqv x y=true↔x=y):∀ a b:List α,a.length=b.length→((a.zip b).any (fun p=>!(eqv p.1 p.2))=false↔a=b)
  | [],[],_=>by simp
  | [],_ :: _,h=>by simp at h
  | _ :: _,[],h=>by simp at h
  | x :: a,y :: b,h=>by
    have ih:=zip_any eqv he a b (by simpa using h)
    rw [List.zip_cons_cons,List.any_cons,Bool.or_eq_false_iff,ih]
    simp only [Bool.not_eq_false',he]
    constructor
    · rintro ⟨rfl,rfl⟩; rfl
    · intro e; injection e with e1 e2; exact ⟨e1,e2⟩
theorem eqloop {α:Type} [DecidableEq α] (a b:List α) (eqv:α→α→Bool) (he:∀ x y,eqv x y=true↔x=y) (hl:a.length < 1000000) (hab:a.length=b.length) (f:Int→Option (Int ⊕ (Unit ⊕ Unit)))
    (hf:∀ s3,f s3=cond (decide (s3 < (a.length:Int))) ((getI a s3).bind fun (x4:α)=>(getI b s3).bind fun (x5:α)=>cond (!(eqv x4 x5)) (some (.inr (.inl ()))) (some (.inl (IntKind.i64.wrap (s3+1))))) (some (.inr (.inr ())))) :
    ∃ e,loopX f KK 0=some e∧isL e=decide (a≠b):=by
  have hz:(a.zip b).length=a.length:=by rw [List.length_zip]; omega
  obtain ⟨e,e1,e2⟩:=anyloop (a.zip b) (fun p=>!(eqv p.1 p.2)) (by omega) f (fun _=>()) (fun i h=>by
    have ha:i < a.length:=by omega
    have hb:i < b.length:=by omega
    rw [hf,dec_t (by omega),cond_true,getI_at ha,Option.bind_some,getI_at hb,Option.bind_some,wrap_id (by omega) (by omega),succ_cast,List.getElem_zip]) (by
    rw [hf,hz,dec_f (by omega),cond_false])
  refine ⟨e,e1, ?_⟩
  have z:=zip_any eqv he a b hab
  rcases e2 with ⟨q,i,rfl⟩ | ⟨q,rfl⟩
  · have:a≠b:=fun h=>by rw [z.2 h] at q; cases q
    rw [dec_t this]; rfl
  · rw [dec_f (by rw [z.1 q]; simp)]; rfl
theorem pair_eqv (x y:api_Pair):(x.Key == y.Key && (x.Value == y.Value && true))=true↔x=y:=by
  obtain ⟨a,b⟩:=x; obtain ⟨c,d⟩:=y
  simp
theorem sess_eqv (x y:api_Sess):(x.Client == y.Client && (x.Seq == y.Seq && (x.Answer.Why == y.Answer.Why && (x.Answer.Value == y.Answer.Value && true))))=true↔x=y:=by
  obtain ⟨a,b,c,d⟩:=x; obtain ⟨e,f,g,h⟩:=y
  simp
instance:DecidableEq api_Pair:=fun a b=>decidable_of_iff _ (pair_eqv a b)
instance:DecidableEq api_Sess:=fun a b=>decidable_of_iff _ (sess_eqv a b)
theorem equalP (a b:List api_Pair) (h:a.length < 1000000):slices_Equal_api_Pair_api_Pair a b=some (decide (a=b)):=by
  unfold slices_Equal_api_Pair_api_Pair
  by_cases c:a.length=b.length
  · rw [bne_f (by omega),cond_false]
    obtain ⟨e,e1,e2⟩:=eqloop a b _ pair_eqv h c (slices_Equal_api_Pair_api_Pair_L0_s a b) (fun _=>rfl)
    unfold slices_Equal_api_Pair_api_Pair_L0
    rw [e1,Option.bind_some,e2]
    by_cases q:a=b <;> simp [q]
  · rw [bne_t (by omega),dec_f (fun e=>c (by rw [e]))]; rfl
theorem equalS (a b:List api_Sess) (h:a.length < 1000000):slices_Equal_api_Sess_api_Sess a b=some (decide (a=b)):=by
  unfold slices_Equal_api_Sess_api_Sess
  by_cases c:a.length=b.length
  · rw [bne_f (by omega),cond_false]
    obtain ⟨e,e1,e2⟩:=eqloop a b _ sess_eqv h c (slices_Equal_api_Sess_api_Sess_L0_s a b) (fun _=>rfl)
    unfold slices_Equal_api_Sess_api_Sess_L0
    rw [e1,Option.bind_some,e2]
    by_cases q:a=b <;> simp [q]
  · rw [bne_t (by omega),dec_f (fun e=>c (by rw [e]))]; rfl
theorem sameI (a b:api_Image) (h1:a.Pairs.length < 1000000) (h2:a.Sess.length < 1000000):oR_SameImage a b=some (decide (a.Shard=b.Shard∧a.Epoch=b.Epoch∧a.Pairs=b.Pairs∧a.Sess=b.Sess)):=by
  unfold oR_SameImage oR_SameImage_J0
  by_cases c1:a.Shard=b.Shard
  case neg=>rw [bne_t c1,dec_f (fun e=>c1 e.1)]; rfl
  rw [bne_f c1,cond_false]
  by_cases c2:a.Epoch=b.Epoch
  case neg=>rw [bne_t c2,dec_f (fun e=>c2 e.2.1)]; rfl
  rw [bne_f c2,cond_false]
  by_cases c3:a.Pairs.length=b.Pairs.length
  case neg=>rw [bne_t (by omega),dec_f (fun e=>c3 (by rw [e.2.2.1]))]; rfl
  rw [bne_f (by omega),cond_false]
  by_cases c4:a.Sess.length=b.Sess.length
  case neg=>rw [bne_t (by omega),dec_f (fun e=>c4 (by rw [e.2.2.2]))]; rfl
  rw [bne_f (by omega),cond_false,Option.bind_some]
  simp only [isL,cond_false]
  obtain ⟨e,e1,e2⟩:=eqloop a.Pairs b.Pairs _ pair_eqv h1 c3 (oR_SameImage_L1_s a b) (fun _=>rfl)
  obtain ⟨e',e1',e2'⟩:=eqloop a.Sess b.Sess _ sess_eqv h2 c4 (oR_SameImage_L2_s a b) (fun _=>rfl)
  unfold oR_SameImage_L1 oR_SameImage_L2
  rw [e1,Option.bind_some]
  show cond (isL e) _ _=_
  rw [e2,e1',Option.bind_some]
  show cond _ _ (cond (isL e') _ _)=_
  rw [e2']
  by_cases p:a.Pairs=b.Pairs <;> by_cases q:a.Sess=b.Sess <;> simp [p,q,c1,c2]
end Go.Proofs.Ytachollgbplikaa
