import Derived.Test.YtgahmammhclobaaGreatG2
import Derived.Test.YtgahmammhclobaaGreatH2
set_option linter.all false
set_option linter.unusedSimpArgs false
set_option maxRecDepth 100000
namespace Go.Proofs.YtgahmammhclobaaGreat
theorem pk16:∀ k:Fin 16,oH_Pick (k.val:Int) 16=some (k.val:Int):=by decide +kernel
theorem pk6:∀ k:Fin 6,oH_Pick (k.val:Int) 6=some (k.val:Int):=by decide +kernel
theorem pk4:∀ k:Fin 4,oH_Pick (k.val:Int) 4=some (k.val:Int):=by decide +kernel
theorem op_all:∀ a:Fin 4,∀ k:Fin 16,∀ v:Fin 6,∀ o:Fin 6,(oH_Op (a.val:Int) (k.val:Int) (v.val:Int) (o.val:Int)).map rightP=some true:=by decide +kernel
theorem op_right (a b c d:Int):∃ o,oH_Op a b c d=some o∧rightP o=true:=by
  obtain ⟨k,hk,hk2⟩:=pick_nat b 16 (by omega) (by omega)
  obtain ⟨v,hv,hv2⟩:=pick_nat c 6 (by omega) (by omega)
  obtain ⟨w,hw,hw2⟩:=pick_nat d 6 (by omega) (by omega)
  obtain ⟨n,hn,hn2⟩:=pick_nat a 4 (by omega) (by omega)
  have hk:oH_Pick b 16=some (k:Int):=hk
  have hv:oH_Pick c 6=some (v:Int):=hv
  have hw:oH_Pick d 6=some (w:Int):=hw
  have hn:oH_Pick a 4=some (n:Int):=hn
  have e1:oH_Key b=oH_Key (k:Int):=by
    unfold oH_Key
    rw [hk,pk16 ⟨k,hk2⟩]
  have e2:oH_Value c=oH_Value (v:Int):=by
    unfold oH_Value
    rw [hv,pk6 ⟨v,hv2⟩]
  have e3:oH_Value d=oH_Value (w:Int):=by
    unfold oH_Value
    rw [hw,pk6 ⟨w,hw2⟩]
  have e4:oH_Pick a 4=oH_Pick (n:Int) 4:=by rw [hn,pk4 ⟨n,hn2⟩]
  have e:oH_Op a b c d=oH_Op (n:Int) (k:Int) (v:Int) (w:Int):=by
    unfold oH_Op oH_Op_J1 oH_Op_J0
    simp only [e1,e2,e3,e4]
  have all:=op_all ⟨n,hn2⟩ ⟨k,hk2⟩ ⟨v,hv2⟩ ⟨w,hw2⟩
  rw [e]
  simp only at all
  cases h:oH_Op (n:Int) (k:Int) (v:Int) (w:Int) with
  | none=>rw [h] at all; cases all
  | some o=>rw [h] at all; exact ⟨o,rfl,Option.some.inj all⟩
theorem req_right (x:oH_RawOp) (h:x.Bend=0):∃ r,oH_Req x=some r∧rightR r:=by
  obtain ⟨c,hc,hc2⟩:=pick_nat x.Client 4 (by omega) (by omega)
  obtain ⟨s,hs,hs2⟩:=pick_nat x.Seq 9 (by omega) (by omega)
  obtain ⟨o,ho,ho2⟩:=op_right x.Kind x.Key x.Value x.Old
  have hc:oH_Pick x.Client 4=some (c:Int):=hc
  have hs:oH_Pick x.Seq 9=some (s:Int):=hs
  have hb:oH_Pick 0 16=some 0:=by decide +kernel
  unfold oH_Req
  rw [hc,hs,ho,h,hb]
  refine ⟨⟨(c:Int),IntKind.i64.wrap (1+(s:Int)),o⟩,rfl, ?_⟩
  unfold rightR
  simp only
  rw [wrap_id (by omega) (by omega)]
  exact ⟨by omega,by omega,by omega,by omega,ho2⟩
theorem ans_do {L:List api_Pair} (hp:OkP L) (o:api_Op) (hr:rightP o=true):((doP o L).1.Why=0∨(doP o L).1.Why=4∨(doP o L).1.Why=5∨(doP o L).1.Why=6)∧(doP o L).1.Value.length≤16:=by
  have pv:hadL L o.Key=true→(pAt L o.Key).Value.length≤16:=fun hd=>by
    have h1:=had_yes hd
    have h2:pAt L o.Key=L[place L o.Key]:=by
      unfold pAt
      rw [List.getElem?_eq_getElem h1]
      rfl
    have:=hp _ (List.getElem_mem h1)
    rw [h2]
    unfold badP at this
    simp only [Bool.or_eq_false_iff,decide_eq_false_iff_not] at this
    omega
  unfold doP
  rw [if_neg (by rw [hr]; simp)]
  cases hd:hadL L o.Key
  · simp only [Bool.false_eq_true,if_false,if_true]
    split
    · split <;> simp
    · simp
  · have:=pv hd
    simp only [if_true,Bool.true_eq_false,if_false]
    split
    · simp
    · split
      · simp; omega
      · split
        · split
          · simp
          · simp; omega
        · simp
theorem noteS_is (S:session_Sessions) (x:api_Sess):noteS S x=S∨noteS S x=⟨S.l.set x.Client x⟩:=by
  unfold noteS session_Sessions_Note session_Sessions_Note_J0
  cases decide (x.Client < 0)
  case true=>exact .inl rfl
  cases decide (x.Client ≥ 4)
  case true=>exact .inl rfl
  cases decide (x.Seq < 1)
  case true=>exact .inl rfl
  simp only [cond_false]
  cases getI S.l.toL x.Client with
  | none=>exact .inl rfl
  | some y =>
    simp only [Option.bind_some]
    cases decide (x.Seq≤y.Seq)
    · exact .inr rfl
    · exact .inl rfl
theorem mem_note {S:session_Sessions} {x y:api_Sess} (h:y ∈ allOf (noteS S x)):y ∈ allOf S∨y=x:=by
  rcases noteS_is S x with e | e <;> rw [e] at h
  · exact .inl h
  · unfold allOf at h ⊢
    rw [List.mem_filter] at h ⊢
    obtain ⟨h1,h2⟩:=h
    have:y ∈ S.l.toL∨y=x:=by
      unfold A4.set at h1
      split at h1 <;> simp only [A4.toL,List.mem_cons,List.not_mem_nil,or_false] at h1 ⊢ <;> (rcases h1 with rfl | rfl | rfl | rfl <;> simp)
    exact this.imp (fun k=>⟨k,h2⟩) id
def OkI (s:shard_Shard):Prop:=OkS s∧OkP s.Table.l∧∀ y ∈ allOf s.Sessions,ansP y=true
theorem ask_ref (r:api_Req) (s:shard_Shard) (h:OkI s):∃ a b s',oR_Shard_Ask r (refOf s)=some (a,b,refOf s')∧OkI s'∧s'.ID=s.ID∧s'.Epoch=s.Epoch:=by
  obtain ⟨T,S,i,e⟩:=s
  have h0:=h
  obtain ⟨⟨hT,hS⟩,hP,hA⟩:=h
  simp only at hT hS hP hA
  unfold oR_Shard_Ask
  rw [rreq_plain,Option.bind_some]
  by_cases hr:rightR r
  case neg =>
    rw [dec_f hr]
    exact ⟨⟨1,[]⟩,false,⟨T,S,i,e⟩,rfl,h0,rfl,rfl⟩
  rw [dec_t hr]
  simp only [isL,cond_false,Bool.not_true]
  have hl:=all_len S
  rw [last3_plain _ _ (by simp only [refOf]; omega),Option.bind_some]
  have q:(lastOf r.Client (refOf ⟨T,S,i,e⟩).S_.L)=(lastOf r.Client (allOf S)):=rfl
  rw [q]
  generalize lastOf r.Client (allOf S)=la
  cases h1:(r.Seq == la.1.Seq)
  case true=>exact ⟨la.1.Answer,false,⟨T,S,i,e⟩,by rfl,h0,rfl,rfl⟩
  simp only [cond_false]
  cases h2:decide (r.Seq < la.1.Seq)
  case true=>exact ⟨⟨9,[]⟩,false,⟨T,S,i,e⟩,by rfl,h0,rfl,rfl⟩
  simp only [cond_false]
  rw [rdo3_plain _ _ hT,Option.bind_some]
  obtain ⟨⟨b,e1,e2⟩,e3⟩:=noteS_good ⟨r.Client,r.Seq,(doP r.Op T.l).1⟩ S hS
  simp only [refOf]
  rw [note3_plain _ _ (by simp only; omega)]
  simp only [e2,Option.bind_some]
  have ha:=ans_do hP r.Op hr.2.2.2.2
  refine ⟨_,_,⟨⟨(doP r.Op T.l).2⟩,noteS S ⟨r.Client,r.Seq,(doP r.Op T.l).1⟩,i,e⟩,rfl,⟨⟨do_ok hT _,e3⟩,okP_do hP _,fun y hy=>?_⟩,rfl,rfl⟩
  rcases mem_note hy with k | rfl
  · exact hA y k
  · have hs:=hr.2.2.2.1
    unfold ansP
    simp only
    rw [dec_t ha.2,dec_t hs]
    rcases ha.1 with k | k | k | k <;> rw [k] <;> rfl
theorem ofP_id:∀ (B A:List api_Pair),OkT (A ++ B)→OkP B→ofP A B=A ++ B
  | [],A,_,_=>by simp [ofP]
  | x :: B,A,h,hp=>by
    have hx:=hp x (by simp)
    unfold badP at hx
    simp only [Bool.or_eq_false_iff,decide_eq_false_iff_not] at hx
    have hr:rightP ⟨2,x.Key,x.Value,[]⟩=true:=by
      unfold rightP
      simp
      omega
    have hlen:A.length < 8:=by have:=h.2; simp at this; omega
    have hlt:∀ i (hi:i < A.length),Op.bytesLess A[i].Key x.Key=true:=fun i hi=>by
      have:=rising_at h.1 (i:=i) (j:=A.length) (by simp) hi
      rw [List.getElem_append_left hi,List.getElem_append_right (Nat.le_refl _)] at this
      simpa using this
    have hpl:A.length=place A x.Key:=place_is x.Key A A.length (Nat.le_refl _) (fun i hi _=>hlt i hi) (fun hh=>by omega)
    have hd:hadL A x.Key=false:=had_no A x.Key (by omega)
    have e:(doP ⟨2,x.Key,x.Value,[]⟩ A).2=A ++ [x]:=by
      unfold doP
      rw [if_neg (by rw [hr]; simp)]
      simp only [if_true]
      rw [if_neg (by rw [hd]; simp),if_neg (by omega)]
      simp only
      unfold insL
      rw [← hpl,Int.toNat_natCast,List.take_length,List.drop_length]
    have st:ofP A (x :: B)=ofP (A ++ [x]) B:=by
      show List.foldl _ _ _=_
      rw [List.foldl_cons,e]
      rfl
    rw [st,ofP_id B (A ++ [x]) (by rw [List.append_assoc]; exact h) (fun p hp'=>hp p (by simp [hp']))]
    simp
def nz (x:api_Sess):api_Sess:=if 0 < x.Seq then x else noneS
theorem note_step (T:session_Sessions) (a:api_Sess) (k:Int) (h0:0≤k) (h4:k < 4) (g:gk k a) (hn:getI T.l.toL k=some noneS):(if decide (0 < a.Seq)=true then noteS T a else T)=if 0 < a.Seq then ⟨T.l.set k a⟩ else T:=by
  by_cases c:0 < a.Seq
  · rw [dec_t c,if_pos rfl,if_pos c]
    have hk:a.Client=k:=by
      rcases g with g | ⟨_,g⟩
      · omega
      · exact g
    unfold noteS session_Sessions_Note session_Sessions_Note_J0
    rw [hk,dec_f (show ¬ k < 0 by omega),dec_f (show ¬ k ≥ 4 by omega),dec_f (show ¬ a.Seq < 1 by omega),hn]
    simp only [cond_false,Option.bind_some]
    rw [dec_f (show ¬ a.Seq≤noneS.Seq by show ¬ a.Seq≤0; omega)]
    rfl
  · rw [dec_f c,if_neg (by simp),if_neg c]
theorem ofS_id (s:session_Sessions) (hs:GoodS s):allOf (ofS (allOf s))=allOf s:=by
  obtain ⟨⟨a0,a1,a2,a3⟩⟩:=s
  obtain ⟨g0,g1,g2,g3⟩:=hs
  simp only at g0 g1 g2 g3
  have e:ofS (allOf ⟨⟨a0,a1,a2,a3⟩⟩)=⟨⟨nz a0,nz a1,nz a2,nz a3⟩⟩:=by
    unfold ofS allOf
    rw [List.foldl_filter]
    simp only [A4.toL,List.foldl_cons,List.foldl_nil]
    rw [note_step zeroS a0 0 (by omega) (by omega) g0 rfl]
    have e0:(if 0 < a0.Seq then (⟨zeroS.l.set 0 a0⟩:session_Sessions) else zeroS)=⟨⟨nz a0,noneS,noneS,noneS⟩⟩:=by unfold nz; split <;> rfl
    rw [e0,note_step _ a1 1 (by omega) (by omega) g1 rfl]
    have e1:(if 0 < a1.Seq then (⟨(⟨nz a0,noneS,noneS,noneS⟩:A4 api_Sess).set 1 a1⟩:session_Sessions) else ⟨⟨nz a0,noneS,noneS,noneS⟩⟩)=⟨⟨nz a0,nz a1,noneS,noneS⟩⟩:=by
      by_cases c:0 < a1.Seq
      · rw [if_pos c,show nz a1=a1 from if_pos c]; rfl
      · rw [if_neg c,show nz a1=noneS from if_neg c]
    rw [e1,note_step _ a2 2 (by omega) (by omega) g2 rfl]
    have e2:(if 0 < a2.Seq then (⟨(⟨nz a0,nz a1,noneS,noneS⟩:A4 api_Sess).set 2 a2⟩:session_Sessions) else ⟨⟨nz a0,nz a1,noneS,noneS⟩⟩)=⟨⟨nz a0,nz a1,nz a2,noneS⟩⟩:=by
      by_cases c:0 < a2.Seq
      · rw [if_pos c,show nz a2=a2 from if_pos c]; rfl
      · rw [if_neg c,show nz a2=noneS from if_neg c]
    rw [e2,note_step _ a3 3 (by omega) (by omega) g3 rfl]
    by_cases c:0 < a3.Seq
    · rw [if_pos c,show nz a3=a3 from if_pos c]; rfl
    · rw [if_neg c,show nz a3=noneS from if_neg c]
  rw [e]
  unfold allOf nz
  simp only [A4.toL]
  have f:∀ x:api_Sess,∀ l:List api_Sess,((if 0 < x.Seq then x else noneS) :: l).filter (fun x=>decide (0 < x.Seq))=(x :: (l)).filter (fun x=>decide (0 < x.Seq)):=fun x l=>by
    by_cases c:0 < x.Seq
    · rw [if_pos c]
    · rw [if_neg c,List.filter_cons_of_neg (by simp [noneS]),List.filter_cons_of_neg (by simpa using c)]
  have g:∀ x:api_Sess,∀ l m:List api_Sess,l.filter (fun x=>decide (0 < x.Seq))=m.filter (fun x=>decide (0 < x.Seq))→(x :: l).filter (fun x=>decide (0 < x.Seq))=(x :: m).filter (fun x=>decide (0 < x.Seq)):=fun x l m e=>by
    rw [List.filter_cons,List.filter_cons,e]
  rw [f]
  apply g
  rw [f]
  apply g
  rw [f]
  apply g
  rw [f]
theorem right_of (s:shard_Shard) (h:OkI s) (h1:0≤s.ID) (h2:s.ID < 6) (h3:1≤s.Epoch) (h4:s.Epoch≤1099511627776):RightI ⟨s.ID,s.Epoch,s.Table.l,allOf s.Sessions⟩:=by
  refine ⟨h1,h2,h3,h4, ?_,ofS_id _ h.1.2, ?_⟩
  · have:=ofP_id s.Table.l [] (by simpa using h.1.1) h.2.1
    simpa using this
  · rw [List.any_eq_false]
    intro y hy
    simp only at hy
    rw [h.2.2 y hy]
    simp
theorem image_right (k epoch:Int) (l:List oH_RawOp):∃ x,oH_Image k epoch l 0=some x∧RightI x∧x.Pairs.length≤8∧x.Sess.length≤4:=by
  obtain ⟨x1,h1,h1'⟩:=pick_nat k 6 (by omega) (by omega)
  obtain ⟨x2,h2,h2'⟩:=pick_nat epoch 6 (by omega) (by omega)
  have h1:oH_Pick k 6=some (x1:Int):=h1
  have h2:oH_Pick epoch 6=some (x2:Int):=h2
  unfold oH_Image
  rw [h1,Option.bind_some,h2,Option.bind_some,wrap_id (by omega) (by omega)]
  have hz:OkI ⟨⟨[]⟩,zeroS,(x1:Int),1+(x2:Int)⟩:=⟨⟨ok0,⟨.inl rfl,.inl rfl,.inl rfl,.inl rfl⟩⟩,(fun p hp=>by simp at hp),fun y hy=>by simp [allOf,zeroS,A4.toL,noneS] at hy⟩
  have f6:oR_ShardFrom ⟨(x1:Int),1+(x2:Int),[],[]⟩=some (refOf ⟨⟨[]⟩,zeroS,(x1:Int),1+(x2:Int)⟩):=by
    unfold oR_ShardFrom
    rw [rof_plain _ (by simp)]
    obtain ⟨S,e1,_,e3⟩:=of_alike [] (by simp)
    have e1':session_OfAll []=some zeroS:=by rw [ofS_plain _ (by simp)]; rfl
    rw [e1'] at e1
    rw [← Option.some.inj e1] at e3
    rw [e3]
    rfl
  rw [f6,Option.bind_some]
  have loop:∃ e,oH_Image_L1 l 0 (0,refOf ⟨⟨[]⟩,zeroS,(x1:Int),1+(x2:Int)⟩)=some e∧∃ s,OkI s∧s.ID=(x1:Int)∧s.Epoch=1+(x2:Int)∧e=refOf s:=by
    refine loopX_inv (fun (s:Int × oR_Shard)=>12 - s.1.toNat) (fun s=>∃ (i:Nat) (t:shard_Shard),s=((i:Int),refOf t)∧i≤12∧OkI t∧t.ID=(x1:Int)∧t.Epoch=1+(x2:Int)) _ ?_ KK _ ⟨0,_,rfl,by omega,hz,rfl,rfl⟩ (by have:=KK_big; simp only; omega)
    rintro s ⟨i,t,rfl,g1,g2,g3,g4⟩
    simp only [oH_Image_L1_s,oH_Image_J0]
    by_cases c:i < l.length
    case neg =>
      right
      rw [dec_f (by omega),cond_false]
      exact ⟨_,rfl,t,g2,g3,g4,rfl⟩
    by_cases c2:i < 12
    case neg =>
      right
      rw [dec_t (by omega),cond_true,dec_f (by omega),cond_false]
      exact ⟨_,rfl,t,g2,g3,g4,rfl⟩
    left
    rw [dec_t (by omega),cond_true,dec_t (by omega),cond_true,Option.bind_some]
    simp only [isL,cond_true]
    obtain ⟨y,hy⟩:=pick_any l[i].Kind 3 (by omega) (by omega)
    have hy:oH_Pick l[i].Kind 3=some y:=hy
    rw [getI_at c,Option.bind_some,hy,Option.bind_some]
    obtain ⟨r,hr,_⟩:=req_right ⟨(IntKind.i64.wrap (1+y)),l[i].Key,l[i].Value,l[i].Old,l[i].Client,l[i].Seq,0,l[i].Text⟩ rfl
    rw [hr,Option.bind_some]
    obtain ⟨a,b,t',t2,t1,t3,t4⟩:=ask_ref r t g2
    rw [t2,Option.bind_some,wrap_id (by omega) (by omega),succ_cast]
    exact ⟨_,rfl,⟨i+1,t',rfl,by omega,t1,by rw [t3,g3],by rw [t4,g4]⟩,by simp only; omega⟩
  obtain ⟨e,e1,s,hs,i1,i2,rfl⟩:=loop
  have hT:(refOf s).T.L.length≤8:=hs.1.1.2
  have hS:(refOf s).S_.L.length≤4:=all_len s.Sessions
  have h3:oH_Pick 0 14=some 0:=by decide +kernel
  rw [e1,Option.bind_some,rimage2_plain _ (by omega) (by omega),Option.bind_some,h3,Option.bind_some]
  exact ⟨_,rfl,right_of s hs (by omega) (by omega) (by omega) (by omega),hT,hS⟩
end Go.Proofs.YtgahmammhclobaaGreat
