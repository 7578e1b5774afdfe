import Derived.Test.YtgahmammhclobaaGreatN2
import Derived.Test.YtgahmammhclobaaGreatK5
set_option linter.all false
set_option linter.unusedSimpArgs false
namespace Go.Proofs.YtgahmammhclobaaGreat
theorem right_alike (x:api_Image) (h1:x.Pairs.length < 1000000) (h2:x.Sess.length < 1000000):∃ b,shard_Right x=some b∧oR_RightImage x=some b:=by
 unfold shard_Right oR_RightImage
 have j0:shard_Right_J0 x=oR_RightImage_J0 x:=rfl
 have jj:oR_RightImage_J0 x=some (.inl ())∨oR_RightImage_J0 x=some (.inr ()):=by
  unfold oR_RightImage_J0
  cases decide (x.Shard < 0) <;> cases decide (x.Shard ≥ 6) <;> cases decide (x.Epoch < 1) <;> cases decide (x.Epoch > 1099511627776) <;> simp
 rw [j0]
 rcases jj with jj | jj <;> rw [jj,Option.bind_some]
 ·exact ⟨false,rfl,rfl⟩
 simp only [isL,cond_false,Option.bind_some]
 obtain ⟨s,e1,e2,e3,e4,e5,e6⟩:=of_shard x (by omega) (by omega)
 have hT:=e2.1.2
 have hS:=all_len s.Sessions
 have j1:shard_Right_J1 s x=some (decide (s.Table.l=x.Pairs∧allOf s.Sessions=x.Sess)):=by
  unfold shard_Right_J1 table_Table_Pairs
  rw [gd32 (by omega),Option.bind_some,equalP _ _ (by omega),Option.bind_some,all_plain,Option.bind_some,equalS _ _ (by omega),Option.bind_some]
  by_cases a:s.Table.l=x.Pairs <;> by_cases b:allOf s.Sessions=x.Sess <;> simp [a,b]
 rw [e1,Option.bind_some,j1,Option.bind_some,contains_plain _ h2,e6]
 obtain ⟨p,p1,p2⟩:=anyloop x.Pairs badP h1 (oR_RightImage_L1_s x) (fun _=>()) (fun i hi=>by
  unfold oR_RightImage_L1_s badP
  rw [dec_t (by omega),cond_true,getI_at hi]
  simp only [Option.bind_some]
  rw [wrap_id (by omega) (by omega),succ_cast]
  by_cases a:x.Pairs[i].Key.length < 1
  ·rw [dec_t (by omega),dec_t a]; rfl
  rw [dec_f (by omega),dec_f a,cond_false]
  by_cases b:8 < x.Pairs[i].Key.length
  ·rw [dec_t (by omega),dec_t b]; rfl
  rw [dec_f (by omega),dec_f b,cond_false]
  by_cases c:16 < x.Pairs[i].Value.length
  ·rw [dec_t (by omega),dec_t c]; rfl
  rw [dec_f (by omega),dec_f c]; rfl) (by
  unfold oR_RightImage_L1_s
  rw [dec_f (by omega),cond_false])
 obtain ⟨q,q1,q2⟩:=anyloop x.Sess (fun y=>!ansP y) h2 (oR_RightImage_L3_s x) (fun _=>()) (fun i hi=>by
  unfold oR_RightImage_L3_s oR_RightImage_J2 ansP
  rw [dec_t (by omega),cond_true,getI_at hi,Option.bind_some]
  simp only [ibeq]
  rw [wrap_id (by omega) (by omega),succ_cast]
  by_cases e:x.Sess[i].Answer.Value.length≤16 <;> by_cases f:x.Sess[i].Seq≤4611686018427387903 <;>
   by_cases a:x.Sess[i].Answer.Why=0 <;> by_cases b:x.Sess[i].Answer.Why=4 <;> by_cases c:x.Sess[i].Answer.Why=5 <;> by_cases d:x.Sess[i].Answer.Why=6 <;>
   simp [a,b,c,d,e,f,show ((16:Int) < (x.Sess[i].Answer.Value.length:Int))↔¬ x.Sess[i].Answer.Value.length≤16 by omega,show (4611686018427387903 < x.Sess[i].Seq)↔¬ x.Sess[i].Seq≤4611686018427387903 by omega]) (by
  unfold oR_RightImage_L3_s
  rw [dec_f (by omega),cond_false])
 unfold oR_RightImage_L1 oR_RightImage_L3
 rw [p1,Option.bind_some,q1]
 have fin:oR_SameImage x ⟨s.ID,s.Epoch,s.Table.l,allOf s.Sessions⟩=some (decide (s.Table.l=x.Pairs∧allOf s.Sessions=x.Sess)):=by
  rw [sameI _ _ h1 h2]
  congr 1
  rw [decide_eq_decide]
  constructor
  ·rintro ⟨_,_,a,b⟩; exact ⟨a.symm,b.symm⟩
  ·rintro ⟨a,b⟩; exact ⟨e4.symm,e5.symm,a.symm,b.symm⟩
 rcases p2 with ⟨p2,_,rfl⟩ | ⟨p2,rfl⟩
 ·have:¬ (s.Table.l=x.Pairs∧allOf s.Sessions=x.Sess):=by
   rintro ⟨a,_⟩
   have ok:=okP_of x.Pairs [] (fun p hp=>by simp at hp)
   rw [← e3,a] at ok
   rw [List.any_eq_true] at p2
   obtain ⟨y,y1,y2⟩:=p2
   rw [ok y y1] at y2
   cases y2
  rw [dec_f this]
  exact ⟨false,rfl,rfl⟩
 simp only [isL,cond_false,Option.bind_some]
 rcases q2 with ⟨q2,_,rfl⟩ | ⟨q2,rfl⟩
 ·rw [q2]
  simp only [isL,cond_true,Bool.not_true]
  exact ⟨false,by cases decide (s.Table.l=x.Pairs∧allOf s.Sessions=x.Sess) <;> rfl,rfl⟩
 ·rw [q2]
  simp only [isL,cond_false,Bool.not_false]
  rw [rimage_plain _ (by simp only [refOf]; omega) (by simp only [refOf]; omega),Option.bind_some]
  show ∃ b,_=some b∧(oR_SameImage x ⟨s.ID,s.Epoch,s.Table.l,allOf s.Sessions⟩).bind _=some b
  rw [fin]
  exact ⟨decide (s.Table.l=x.Pairs∧allOf s.Sessions=x.Sess),by cases decide (s.Table.l=x.Pairs∧allOf s.Sessions=x.Sess) <;> rfl,rfl⟩
theorem rright_is (x:api_Image) (h1:x.Pairs.length < 1000000) (h2:x.Sess.length < 1000000):oR_RightImage x=some (decide (RightI x)):=by
 obtain ⟨b,b1,b2⟩:=right_alike x h1 h2
 rw [right_is x h1 h2] at b1
 rw [b2,b1]
theorem noneReq_plain (r:api_Req):oR_NoneReq r=some (decide (r=zeroQ)):=by
 unfold oR_NoneReq
 rw [show (r.Client == 0 && (r.Seq == 0 && (r.Op.Kind == 0 && (r.Op.Key == ([]:List UInt8) && (r.Op.Value == ([]:List UInt8) && (r.Op.Old == ([]:List UInt8) && true))))))=decide (r=zeroQ) from req_beq r zeroQ]
theorem mayReq_plain (r:api_Req):oR_MayReq r=some (rightQ r):=by
 unfold oR_MayReq rightQ
 rw [noneReq_plain,rreq_plain,Option.bind_some,Option.bind_some]
 cases decide (r=zeroQ) <;> rfl
theorem mayAns_plain (a:api_Answer):oR_MayAnswer a=some (rightA a):=rightAns_plain a
theorem noneImage_plain (x:api_Image):oR_NoneImage x=some (zeroI x):=zero_plain x
theorem mayImage_plain (x:api_Image) (h1:x.Pairs.length < 1000000) (h2:x.Sess.length < 1000000):oR_MayImage x=some (rightJ x):=by
 unfold oR_MayImage rightJ
 rw [noneImage_plain,rright_is x h1 h2,Option.bind_some,Option.bind_some]
 cases zeroI x <;> rfl
theorem rlayReq_plain (b:List UInt8) (r:api_Req) (hb:b.length < 800000000):oR_LayReq b r=some (if rightQ r then b ++ eReq r else []):=by
 unfold oR_LayReq
 rw [mayReq_plain,Option.bind_some]
 cases h:rightQ r
 ·rfl
 obtain ⟨h1,h2,h3,h4,h5,h6⟩:=rightQ_small h
 have hl:=eReq_len h
 have hp:=putOf_ok b (l:=[r.Client,r.Seq,r.Op.Kind]) (fun x hx=>by
  simp only [List.mem_cons,List.not_mem_nil,or_false] at hx
  rcases hx with rfl | rfl | rfl <;> assumption)
 unfold eReq at hl
 rw [List.length_append] at hl
 simp only [Bool.not_true,cond_false,if_true]
 rw [rput1_plain _ _ (by simp only [List.length_cons,List.length_nil]; omega),Option.bind_some,hp,rtext_plain _ _ (by rw [List.length_append]; omega) (by simp),Option.bind_some]
 unfold eReq
 rw [List.append_assoc]
theorem rlayAns_plain (b:List UInt8) (a:api_Answer) (hb:b.length < 800000000):oR_LayAnswer b a=some (if rightA a then b ++ eAns a else []):=by
 unfold oR_LayAnswer
 rw [mayAns_plain,Option.bind_some]
 cases h:rightA a
 ·rfl
 obtain ⟨h1,h2⟩:=rightA_small h
 have hl:=eAns_len h
 have hp:=putOf_ok b (l:=[a.Why]) (fun x hx=>by
  rw [List.mem_singleton.1 hx]
  exact h1)
 unfold eAns at hl
 rw [List.length_append] at hl
 simp only [Bool.not_true,cond_false,if_true]
 rw [rput1_plain _ _ (by simp only [List.length_cons,List.length_nil]; omega),Option.bind_some,hp,rtext_plain _ _ (by simp only [List.flatMap_cons,List.flatMap_nil,List.append_nil,List.length_append]; omega) (by simp),Option.bind_some]
 unfold eAns
 simp
theorem rlayImage_plain (b:List UInt8) (x:api_Image) (hb:b.length < 700000000) (h1:x.Pairs.length < 1000000) (h2:x.Sess.length < 1000000):oR_LayImage b x=some (if rightJ x then b ++ eImg x else []):=by
 unfold oR_LayImage
 rw [mayImage_plain x h1 h2,Option.bind_some]
 cases h:rightJ x
 ·rfl
 obtain ⟨g1,g2,g3,g4,g5,g6⟩:=rightJ_small h
 obtain ⟨c1,c2,c3⟩:=eImg_parts h
 have a1:=eN_len _ g1
 have a2:=eN_len _ g2
 have a3:=eN_len (x.Pairs.length:Int) (by unfold okN; omega)
 have a4:=eN_len (x.Sess.length:Int) (by unfold okN; omega)
 have hp:=putOf_ok b (l:=[x.Shard,x.Epoch,(x.Pairs.length:Int)]) (fun z hz=>by
  simp only [List.mem_cons,List.not_mem_nil,or_false] at hz
  rcases hz with rfl | rfl | rfl
  ·exact g1
  ·exact g2
  ·unfold okN; omega)
 simp only [Bool.not_true,cond_false,if_true]
 rw [rput1_plain _ _ (by simp only [List.length_cons,List.length_nil]; omega),Option.bind_some,hp]
 generalize hB:b ++ [x.Shard,x.Epoch,(x.Pairs.length:Int)].flatMap eN=B at *
 have hBl:B.length≤b.length+27:=by
  rw [← hB]
  simp only [List.flatMap_cons,List.flatMap_nil,List.length_append,List.length_nil]
  omega
 have l0:oR_LayImage_L0 x (B,0)=some (B ++ x.Pairs.flatMap ePair):=by
  have e0:(B,(0:Int))=(B ++ (x.Pairs.take 0).flatMap ePair,((0:Nat):Int)):=by simp
  unfold oR_LayImage_L0
  rw [e0]
  refine loop_run (fun i=>(B ++ (x.Pairs.take i).flatMap ePair,(i:Int))) x.Pairs.length _ (fun i hi=>?_) ?_ (by omega)
  ·have h5:(x.Pairs.take (i+1)).flatMap ePair=(x.Pairs.take i).flatMap ePair ++ ePair x.Pairs[i]:=by
    rw [List.take_succ_eq_append_getElem hi,List.flatMap_append]
    simp
   have h6:=flat_take ePair x.Pairs i
   have h7:=ePair_len (g5 _ (List.getElem_mem hi))
   unfold ePair at h7
   rw [List.length_append] at h7
   unfold oR_LayImage_L0_s
   simp only
   rw [dec_t (by omega),cond_true,getI_at hi,Option.bind_some,Option.bind_some,rtext_plain _ _ (by simp only [List.length_append,List.flatMap_cons,List.flatMap_nil,List.length_nil]; omega) (by simp),Option.bind_some,wrap_id (by omega) (by omega),succ_cast,h5]
   unfold ePair
   simp
  ·unfold oR_LayImage_L0_s
   simp only
   rw [dec_f (by omega),cond_false,List.take_length]
 rw [l0,Option.bind_some]
 have hp2:=putOf_ok (B ++ x.Pairs.flatMap ePair) (l:=[(x.Sess.length:Int)]) (fun z hz=>by
  rw [List.mem_singleton.1 hz]
  unfold okN
  omega)
 rw [rput1_plain _ _ (by simp only [List.length_append,List.length_cons,List.length_nil]; omega),Option.bind_some,hp2]
 generalize hD:B ++ x.Pairs.flatMap ePair ++ [(x.Sess.length:Int)].flatMap eN=D at *
 have hDl:D.length≤b.length+600:=by
  rw [← hD]
  simp only [List.flatMap_cons,List.flatMap_nil,List.length_append,List.length_nil]
  omega
 have l1:oR_LayImage_L1 x (D,0)=some (D ++ x.Sess.flatMap eSess):=by
  have e0:(D,(0:Int))=(D ++ (x.Sess.take 0).flatMap eSess,((0:Nat):Int)):=by simp
  unfold oR_LayImage_L1
  rw [e0]
  refine loop_run (fun i=>(D ++ (x.Sess.take i).flatMap eSess,(i:Int))) x.Sess.length _ (fun i hi=>?_) ?_ (by omega)
  ·have h5:(x.Sess.take (i+1)).flatMap eSess=(x.Sess.take i).flatMap eSess ++ eSess x.Sess[i]:=by
    rw [List.take_succ_eq_append_getElem hi,List.flatMap_append]
    simp
   have h6:=flat_take eSess x.Sess i
   obtain ⟨q1,q2,q3⟩:=g6 _ (List.getElem_mem hi)
   have h7:=eSess_len ⟨q1,q2,q3⟩
   unfold eSess at h7
   rw [List.length_append] at h7
   have hp3:=putOf_ok (D ++ (x.Sess.take i).flatMap eSess) (l:=[x.Sess[i].Client,x.Sess[i].Seq]) (fun z hz=>by
    simp only [List.mem_cons,List.not_mem_nil,or_false] at hz
    rcases hz with rfl | rfl <;> assumption)
   unfold oR_LayImage_L1_s
   simp only
   rw [dec_t (by omega),cond_true,getI_at hi,Option.bind_some,Option.bind_some,rput1_plain _ _ (by simp only [List.length_append,List.length_cons,List.length_nil]; omega),Option.bind_some,hp3,Option.bind_some,rlayAns_plain _ _ (by simp only [List.length_append]; omega),q3,Option.bind_some,wrap_id (by omega) (by omega),succ_cast,h5]
   unfold eSess
   simp
  ·unfold oR_LayImage_L1_s
   simp only
   rw [dec_f (by omega),cond_false,List.take_length]
 rw [l1,Option.bind_some,← hD,← hB]
 unfold eImg
 simp
abbrev Rdr:=oR_Reader
def Rdx {α:Type} (f:Rdr→Option (α × Rdr)) (p:Pr α):Prop:=∀ b e,b.length < 500000000→(e≠0→∃ x,f ⟨b,e⟩=some (x,⟨b,e⟩))∧(match p b with
 | .inl er=>∃ x s,f ⟨b,0⟩=some (x,⟨s,er⟩)∧s.length≤b.length
 | .inr (x,s)=>f ⟨b,0⟩=some (x,⟨s,0⟩))
theorem Rdx.seq {α β:Type} {f:Rdr→Option (α × Rdr)} {p:Pr α} {g:α→Rdr→Option (β × Rdr)} {q:α→Pr β} (h:Rdx f p) (he:Err p) (hs:Shr p) (k:∀ x,Rdx (g x) (q x)):Rdx (fun r=>(f r).bind fun y=>g y.1 y.2) (pSeq p q):=by
 intro b e hb
 obtain ⟨h1,h2⟩:=h b e hb
 refine ⟨fun hee=>?_, ?_⟩
 ·obtain ⟨x,hx⟩:=h1 hee
  simp only [hx,Option.bind_some]
  exact (k x b e hb).1 hee
 ·unfold pSeq
  cases hp:p b with
  | inl er =>
   rw [hp] at h2
   obtain ⟨x,s,hx,hl⟩:=h2
   have hne:er≠0:=by rcases he _ _ hp with rfl | rfl <;> omega
   obtain ⟨y,hy⟩:=(k x s er (by omega)).1 hne
   refine ⟨y,s, ?_,hl⟩
   simp only [hx,Option.bind_some]
   exact hy
  | inr y =>
   obtain ⟨x,s⟩:=y
   rw [hp] at h2
   have hl:=hs _ _ _ hp
   have h3:=(k x s 0 (by omega)).2
   simp only at h2 ⊢
   simp only [h2,Option.bind_some]
   cases hq:q x s with
   | inl er =>
    rw [hq] at h3
    obtain ⟨z,t,hz,ht⟩:=h3
    exact ⟨z,t,hz,by omega⟩
   | inr z =>
    rw [hq] at h3
    exact h3
theorem Rdx.ret {α:Type} (x:α):Rdx (fun r=>some (x,r)) (fun b=>.inr (x,b)):=fun b e _=>⟨fun _=>⟨x,rfl⟩,rfl⟩
theorem int_rd:Rdx oR_Reader_Int pNum:=by
 intro b e hb
 refine ⟨fun he=>⟨0, ?_⟩, ?_⟩
 ·unfold oR_Reader_Int
  rw [bne_t he]
  rfl
 ·unfold oR_Reader_Int
  rw [bne_f rfl]
  simp only [cond_false]
  rw [rtake_plain b (by omega),Option.bind_some]
  unfold TakeOf pNum
  rcases takeOf_cases b with e | e | ⟨v,k,e,_⟩ <;> rw [e]
  ·exact ⟨_,_,rfl,by simp⟩
  ·exact ⟨_,_,rfl,by simp⟩
  ·rfl
theorem rtakeText_plain (b:List UInt8) (hb:b.length < 500000000):oR_TakeText b=some (match pText b with
  | .inl e=>([],[],e)
  | .inr (s,r)=>(s,r,0)):=by
 unfold oR_TakeText pText
 rw [rtake_plain b (by omega),Option.bind_some]
 unfold TakeOf
 rcases takeOf_cases b with e | e | ⟨v,k,e,h1,h2,h3,h4⟩
 ·rw [e]; rfl
 ·rw [e]; rfl
 ·rw [e]
  simp only [if_true,Int.toNat_natCast]
  rw [bne_f rfl,cond_false,List.length_drop]
  by_cases c:v≤b.length - k
  ·rw [dec_f (by omega),cond_false,if_pos c,show ((b.length - k:Nat):Int)=((b.drop k).length:Int) by rw [List.length_drop],slI_from (b.drop k) v (by rw [List.length_drop]; omega),Option.bind_some,gd_fits1 (by simp only [List.length_drop]; omega),slI_to (b.drop k) v (by rw [List.length_drop]; omega),Option.bind_some,List.drop_drop]
  ·rw [dec_t (by omega),cond_true,if_neg c]
theorem text_rd:Rdx oR_Reader_Text pText:=by
 intro b e hb
 refine ⟨fun he=>⟨[], ?_⟩, ?_⟩
 ·unfold oR_Reader_Text
  rw [bne_t he]
  rfl
 ·unfold oR_Reader_Text
  rw [bne_f rfl]
  simp only [cond_false]
  rw [rtakeText_plain b hb,Option.bind_some]
  cases pText b with
  | inl e=>exact ⟨_,_,rfl,by simp⟩
  | inr y=>rfl
theorem fail_plain (er e:Int) (b:List UInt8):oR_Reader_Fail er ⟨b,e⟩=some (if e=0 then ⟨b,er⟩ else ⟨b,e⟩):=by
 unfold oR_Reader_Fail
 by_cases h:e=0
 ·rw [if_pos h,beq_t h]; rfl
 ·rw [if_neg h,beq_f h]; rfl
theorem chk_rd {α:Type} (x:α) (m:Option Bool) (c:Bool) (hm:m=some c):Rdx (fun r=>m.bind fun z=>cond (!z) ((oR_Reader_Fail 2 r).bind fun y=>some (x,y)) (some (x,r))) (fun b=>if c then .inr (x,b) else .inl 2):=by
 intro b e hb
 subst hm
 refine ⟨fun he=>⟨x, ?_⟩, ?_⟩
 ·simp only [Option.bind_some,fail_plain,if_neg he]
  cases c <;> rfl
 ·simp only [Option.bind_some,fail_plain,if_true]
  cases c
  ·exact ⟨x,b,rfl,Nat.le_refl _⟩
  ·rfl
theorem pseq_assoc {α β γ:Type} (p:Pr α) (q:α→Pr β) (r:β→Pr γ):pSeq (pSeq p q) r=pSeq p fun x=>pSeq (q x) r:=by
 funext b
 unfold pSeq
 cases p b <;> rfl
theorem pseq_ret {α β:Type} (x:α) (r:α→Pr β):pSeq (fun b=>.inr (x,b)) r=r x:=rfl
def rq6 (q:api_Req) (r:Rdr):Option (api_Req × Rdr):=(oR_MayReq q).bind fun z=>cond (!z) ((oR_Reader_Fail 2 r).bind fun y=>some (q,y)) (some (q,r))
def rq5 (a b c:Int) (d f:List UInt8) (r:Rdr):=(oR_Reader_Text r).bind fun x=>rq6 ⟨a,b,⟨c,d,f,x.1⟩⟩ x.2
def rq4 (a b c:Int) (d:List UInt8) (r:Rdr):=(oR_Reader_Text r).bind fun x=>rq5 a b c d x.1 x.2
def rq3 (a b c:Int) (r:Rdr):=(oR_Reader_Text r).bind fun x=>rq4 a b c x.1 x.2
def rq2 (a b:Int) (r:Rdr):=(oR_Reader_Int r).bind fun x=>rq3 a b x.1 x.2
def rq1 (a:Int) (r:Rdr):=(oR_Reader_Int r).bind fun x=>rq2 a x.1 x.2
def rq0 (r:Rdr):=(oR_Reader_Int r).bind fun x=>rq1 x.1 x.2
theorem rq_is:oR_Reader_Req=rq0:=rfl
theorem rq6_rd (q:api_Req):Rdx (rq6 q) (pChk rightQ q):=chk_rd q _ _ (mayReq_plain q)
theorem rq5_rd (a b c:Int) (d f:List UInt8):Rdx (rq5 a b c d f) (pSeq pText fun g=>pChk rightQ ⟨a,b,⟨c,d,f,g⟩⟩):=Rdx.seq (g:=fun x r=>rq6 ⟨a,b,⟨c,d,f,x⟩⟩ r) text_rd text_err text_shr fun g=>rq6_rd ⟨a,b,⟨c,d,f,g⟩⟩
theorem rq4_rd (a b c:Int) (d:List UInt8):Rdx (rq4 a b c d) (pSeq pText fun f=>pSeq pText fun g=>pChk rightQ ⟨a,b,⟨c,d,f,g⟩⟩):=Rdx.seq (g:=fun x r=>rq5 a b c d x r) text_rd text_err text_shr fun g=>rq5_rd a b c d g
theorem rq3_rd (a b c:Int):Rdx (rq3 a b c) (pSeq pText fun d=>pSeq pText fun f=>pSeq pText fun g=>pChk rightQ ⟨a,b,⟨c,d,f,g⟩⟩):=Rdx.seq (g:=fun x r=>rq4 a b c x r) text_rd text_err text_shr fun g=>rq4_rd a b c g
theorem rq2_rd (a b:Int):Rdx (rq2 a b) (pSeq pNum fun c=>pSeq pText fun d=>pSeq pText fun f=>pSeq pText fun g=>pChk rightQ ⟨a,b,⟨c,d,f,g⟩⟩):=Rdx.seq (g:=fun x r=>rq3 a b x r) int_rd num_err num_shr fun c=>rq3_rd a b c
theorem rq1_rd (a:Int):Rdx (rq1 a) (pSeq pNum fun b=>pSeq pNum fun c=>pSeq pText fun d=>pSeq pText fun f=>pSeq pText fun g=>pChk rightQ ⟨a,b,⟨c,d,f,g⟩⟩):=Rdx.seq (g:=fun x r=>rq2 a x r) int_rd num_err num_shr fun b=>rq2_rd a b
theorem req_rd:Rdx oR_Reader_Req pReq:=by
 have e:pReq=pSeq pNum fun a=>pSeq pNum fun b=>pSeq pNum fun c=>pSeq pText fun d=>pSeq pText fun f=>pSeq pText fun g=>pChk rightQ ⟨a,b,⟨c,d,f,g⟩⟩:=by
  unfold pReq
  simp only [pRep,pseq_assoc,pseq_ret]
  rfl
 rw [e,rq_is]
 exact Rdx.seq (g:=fun x r=>rq1 x r) int_rd num_err num_shr fun a=>rq1_rd a
def ra2 (a:api_Answer) (r:Rdr):Option (api_Answer × Rdr):=(oR_MayAnswer a).bind fun z=>cond (!z) ((oR_Reader_Fail 2 r).bind fun y=>some (a,y)) (some (a,r))
def ra1 (a:Int) (r:Rdr):=(oR_Reader_Text r).bind fun x=>ra2 ⟨a,x.1⟩ x.2
def ra0 (r:Rdr):=(oR_Reader_Int r).bind fun x=>ra1 x.1 x.2
theorem ra_is:oR_Reader_Answer=ra0:=rfl
theorem ra2_rd (a:api_Answer):Rdx (ra2 a) (pChk rightA a):=chk_rd a _ _ (mayAns_plain a)
theorem ra1_rd (a:Int):Rdx (ra1 a) (pSeq pText fun s=>pChk rightA ⟨a,s⟩):=Rdx.seq (g:=fun x r=>ra2 ⟨a,x⟩ r) text_rd text_err text_shr fun g=>ra2_rd ⟨a,g⟩
theorem ans_rd:Rdx oR_Reader_Answer pAns:=by
 rw [ra_is]
 exact Rdx.seq (g:=fun x r=>ra1 x r) int_rd num_err num_shr fun a=>ra1_rd a
end Go.Proofs.YtgahmammhclobaaGreat
