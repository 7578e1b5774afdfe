import Derived.Test.YtgahmammhclobaaGreatK2
import Derived.Test.YtgahmammhclobaaGreatG2
set_option linter.all false
set_option linter.unusedSimpArgs false
namespace Go.Proofs.YtgahmammhclobaaGreat
def zeroQ:api_Req:=⟨0,0,⟨0,[],[],[]⟩⟩
theorem req_eqv (x y:api_Req):(x.Client == y.Client && (x.Seq == y.Seq && (x.Op.Kind == y.Op.Kind && (x.Op.Key == y.Op.Key && (x.Op.Value == y.Op.Value && (x.Op.Old == y.Op.Old && true))))))=true↔x=y:=by
 obtain ⟨a,b,c,d,e,f⟩:=x; obtain ⟨a',b',c',d',e',f'⟩:=y
 simp
instance:DecidableEq api_Req:=fun a b=>decidable_of_iff _ (req_eqv a b)
theorem req_beq (x y:api_Req):(x.Client == y.Client && (x.Seq == y.Seq && (x.Op.Kind == y.Op.Kind && (x.Op.Key == y.Op.Key && (x.Op.Value == y.Op.Value && (x.Op.Old == y.Op.Old && true))))))=decide (x=y):=by
 rw [Bool.eq_iff_iff,req_eqv,decide_eq_true_eq]
def rightQ (r:api_Req):Bool:=decide (r=zeroQ) || decide (rightR r)
theorem rightReq_plain (r:api_Req):codec_RightReq r=some (rightQ r):=by
 unfold codec_RightReq
 rw [show (r.Client == 0 && (r.Seq == 0 && (r.Op.Kind == 0 && (r.Op.Key == ([]:List UInt8) && (r.Op.Value == ([]:List UInt8) && (r.Op.Old == ([]:List UInt8) && true))))))=decide (r=zeroQ) from req_beq r zeroQ]
 unfold rightQ
 by_cases z:r=zeroQ
 ·rw [dec_t z]; rfl
 rw [dec_f z,cond_false,Bool.false_or]
 by_cases h1:r.Client ≥ 0
 case neg=>rw [dec_f h1,dec_f (show ¬ rightR r by unfold rightR; omega)]; rfl
 rw [dec_t h1,cond_true]
 by_cases h2:r.Client < 4
 case neg=>rw [dec_f h2,dec_f (show ¬ rightR r by unfold rightR; omega)]; rfl
 rw [dec_t h2,cond_true]
 by_cases h3:r.Seq ≥ 1
 case neg=>rw [dec_f h3,dec_f (show ¬ rightR r by unfold rightR; omega)]; rfl
 rw [dec_t h3,cond_true]
 by_cases h4:r.Seq≤4611686018427387903
 case neg=>rw [dec_f h4,dec_f (show ¬ rightR r by unfold rightR; omega)]; rfl
 rw [dec_t h4,cond_true,right_plain,Option.bind_some]
 cases h5:rightP r.Op
 ·rw [dec_f (show ¬ rightR r by unfold rightR; rw [h5]; simp)]
 ·rw [dec_t (show rightR r by unfold rightR; exact ⟨by omega,by omega,by omega,by omega,h5⟩)]
theorem rightP_len {o:api_Op} (h:rightP o=true):1≤o.Kind∧o.Kind≤4∧o.Key.length≤8∧o.Value.length≤16∧o.Old.length≤16:=by
 unfold rightP at h
 simp only [Bool.and_eq_true,decide_eq_true_eq] at h
 omega
theorem rightQ_small {r:api_Req} (h:rightQ r=true):okN r.Client∧okN r.Seq∧okN r.Op.Kind∧r.Op.Key.length≤8∧r.Op.Value.length≤16∧r.Op.Old.length≤16:=by
 unfold rightQ at h
 rcases Bool.or_eq_true_iff.1 h with h | h
 ·have h:=of_decide_eq_true h
  subst h
  refine ⟨?_, ?_, ?_, ?_, ?_, ?_⟩ <;> simp [zeroQ,okN]
 ·obtain ⟨h1,h2,h3,h4,h5⟩:=of_decide_eq_true h
  have:=rightP_len h5
  unfold okN
  omega
def eReq (r:api_Req):List UInt8:=[r.Client,r.Seq,r.Op.Kind].flatMap eN ++ [r.Op.Key,r.Op.Value,r.Op.Old].flatMap eT
theorem eN_len (x:Int) (h:okN x):(eN x).length≤9:=by unfold okN at h; exact encN_le9 (by omega)
theorem eReq_len {r:api_Req} (h:rightQ r=true):(eReq r).length≤100:=by
 obtain ⟨h1,h2,h3,h4,h5,h6⟩:=rightQ_small h
 have a1:=eN_len _ h1
 have a2:=eN_len _ h2
 have a3:=eN_len _ h3
 have b1:=eT_len r.Op.Key (by unfold okS; omega)
 have b2:=eT_len r.Op.Value (by unfold okS; omega)
 have b3:=eT_len r.Op.Old (by unfold okS; omega)
 unfold eReq
 simp only [List.flatMap_cons,List.flatMap_nil,List.length_append,List.length_nil]
 omega
theorem layReq_plain (b:List UInt8) (r:api_Req) (hb:b.length < 800000000):codec_LayReq b r=some (if rightQ r then b ++ eReq r else []):=by
 unfold codec_LayReq
 rw [rightReq_plain,Option.bind_some]
 cases h:rightQ r
 ·rfl
 obtain ⟨h1,h2,h3,h4,h5,h6⟩:=rightQ_small h
 have hl:=eReq_len h
 have hp:=putOf_ok b (l:=[r.Client,r.Seq,r.Op.Kind]) (fun x hx=>by
  simp only [List.mem_cons,List.not_mem_nil,or_false] at hx
  rcases hx with rfl | rfl | rfl <;> assumption)
 unfold eReq at hl
 rw [List.length_append] at hl
 simp only [Bool.not_true,cond_false,if_true]
 rw [put_plain _ _ (by simp only [List.length_cons,List.length_nil]; omega),Option.bind_some,hp,text_plain _ _ (by rw [List.length_append]; omega) (by simp),Option.bind_some]
 unfold eReq
 rw [List.append_assoc]
def rightA (a:api_Answer):Bool:=decide (0≤a.Why) && decide (a.Why≤11) && decide (a.Value.length≤16)
theorem rightAns_plain (a:api_Answer):codec_RightAnswer a=some (rightA a):=by
 unfold codec_RightAnswer rightA
 by_cases h1:0≤a.Why
 case neg=>rw [dec_f (show ¬ a.Why ≥ 0 by omega)]; rfl
 rw [dec_t (show a.Why ≥ 0 by omega),cond_true,Bool.true_and]
 by_cases h2:a.Why≤11
 case neg=>rw [dec_f h2]; rfl
 rw [dec_t h2,cond_true,Bool.true_and]
 congr 1
 rw [decide_eq_decide]
 omega
def eAns (a:api_Answer):List UInt8:=eN a.Why ++ eT a.Value
theorem rightA_small {a:api_Answer} (h:rightA a=true):okN a.Why∧a.Value.length≤16:=by
 unfold rightA at h
 simp only [Bool.and_eq_true,decide_eq_true_eq] at h
 unfold okN
 omega
theorem eAns_len {a:api_Answer} (h:rightA a=true):(eAns a).length≤40:=by
 obtain ⟨h1,h2⟩:=rightA_small h
 have a1:=eN_len _ h1
 have b1:=eT_len a.Value (by unfold okS; omega)
 unfold eAns
 rw [List.length_append]
 omega
theorem layAns_plain (b:List UInt8) (a:api_Answer) (hb:b.length < 800000000):codec_LayAnswer b a=some (if rightA a then b ++ eAns a else []):=by
 unfold codec_LayAnswer
 rw [rightAns_plain,Option.bind_some]
 cases h:rightA a
 ·rfl
 obtain ⟨h1,h2⟩:=rightA_small h
 have hl:=eAns_len h
 have hp:=putOf_ok b (l:=[a.Why]) (fun x hx=>by
  rw [List.mem_singleton.1 hx]
  exact h1)
 unfold eAns at hl
 rw [List.length_append] at hl
 simp only [Bool.not_true,cond_false,if_true]
 rw [put_plain _ _ (by simp only [List.length_cons,List.length_nil]; omega),Option.bind_some,hp,text_plain _ _ (by simp only [List.flatMap_cons,List.flatMap_nil,List.append_nil,List.length_append]; omega) (by simp),Option.bind_some]
 unfold eAns
 simp
def zeroI (x:api_Image):Bool:=decide (x.Shard=0) && decide (x.Epoch=0) && decide (x.Pairs.length=0) && decide (x.Sess.length=0)
theorem zero_plain (x:api_Image):codec_zero x=some (zeroI x):=by
 unfold codec_zero zeroI
 simp only [lbeq_eq]
 by_cases h1:x.Shard=0
 case neg=>rw [dec_f h1]; rfl
 rw [dec_t h1,cond_true,Bool.true_and]
 by_cases h2:x.Epoch=0
 case neg=>rw [dec_f h2]; rfl
 rw [dec_t h2,cond_true,Bool.true_and]
 by_cases h3:x.Pairs.length=0
 case neg=>rw [dec_f h3,dec_f (show ¬ ((x.Pairs.length:Int)=0) by omega)]; rfl
 rw [dec_t h3,dec_t (show ((x.Pairs.length:Int)=0) by omega),cond_true,Bool.true_and]
 congr 1
 rw [decide_eq_decide]
 omega
def rightJ (x:api_Image):Bool:=zeroI x || decide (RightI x)
theorem rightImage_plain (x:api_Image) (h1:x.Pairs.length < 1000000) (h2:x.Sess.length < 1000000):codec_RightImage x=some (rightJ x):=by
 unfold codec_RightImage rightJ
 rw [zero_plain,Option.bind_some]
 cases zeroI x
 ·rw [cond_false,right_is x h1 h2]; rfl
 ·rfl
theorem okP_of0 (l:List api_Pair):OkP (ofP [] l):=okP_of l [] fun p hp=>by simp at hp
theorem rightJ_small {x:api_Image} (h:rightJ x=true):okN x.Shard∧okN x.Epoch∧x.Pairs.length≤8∧x.Sess.length≤4∧(∀ p ∈ x.Pairs,p.Key.length≤8∧p.Value.length≤16)∧∀ s ∈ x.Sess,okN s.Client∧okN s.Seq∧rightA s.Answer=true:=by
 unfold rightJ at h
 rcases Bool.or_eq_true_iff.1 h with h | h
 ·unfold zeroI at h
  simp only [Bool.and_eq_true,decide_eq_true_eq] at h
  obtain ⟨⟨⟨a,b⟩,c⟩,d⟩:=h
  have c:=List.eq_nil_of_length_eq_zero c
  have d:=List.eq_nil_of_length_eq_zero d
  rw [a,b,c,d]
  refine ⟨by simp [okN],by simp [okN],by simp,by simp,by simp,by simp⟩
 ·obtain ⟨h1,h2,h3,h4,h5,h6,h7⟩:=of_decide_eq_true h
  have hT:=(ofP_ok x.Pairs [] ok0).2
  have hP:=okP_of0 x.Pairs
  have hS:=all_len (ofS x.Sess)
  have hG:=ofS_good x.Sess
  rw [h5] at hT hP
  rw [h6] at hS
  refine ⟨by unfold okN; omega,by unfold okN; omega,hT,hS,fun p hp=>?_,fun s hs=>?_⟩
  ·have:=hP p hp
   unfold badP at this
   simp only [Bool.or_eq_false_iff,decide_eq_false_iff_not] at this
   omega
  ·have ha:ansP s=true:=by
    rw [List.any_eq_false] at h7
    have:=h7 s hs
    simpa using this
   have hm:s ∈ allOf (ofS x.Sess):=by rw [h6]; exact hs
   have hc:0 < s.Seq∧0≤s.Client∧s.Client < 4:=by
    unfold allOf at hm
    rw [List.mem_filter] at hm
    obtain ⟨m,p⟩:=hm
    have p:=of_decide_eq_true p
    obtain ⟨g0,g1,g2,g3⟩:=hG
    simp only [A4.toL,List.mem_cons,List.not_mem_nil,or_false] at m
    rcases m with rfl | rfl | rfl | rfl
    ·rcases g0 with k | ⟨_,k⟩ <;> omega
    ·rcases g1 with k | ⟨_,k⟩ <;> omega
    ·rcases g2 with k | ⟨_,k⟩ <;> omega
    ·rcases g3 with k | ⟨_,k⟩ <;> omega
   unfold ansP at ha
   simp only [Bool.and_eq_true,Bool.or_eq_true,decide_eq_true_eq] at ha
   refine ⟨by unfold okN; omega,by unfold okN; omega, ?_⟩
   unfold rightA
   simp only [Bool.and_eq_true,decide_eq_true_eq]
   omega
def ePair (p:api_Pair):List UInt8:=eT p.Key ++ eT p.Value
def eSess (s:api_Sess):List UInt8:=[s.Client,s.Seq].flatMap eN ++ eAns s.Answer
def eImg (x:api_Image):List UInt8:=[x.Shard,x.Epoch].flatMap eN ++ (eN (x.Pairs.length:Int) ++ (x.Pairs.flatMap ePair ++ (eN (x.Sess.length:Int) ++ x.Sess.flatMap eSess)))
theorem flat_bound {α:Type} (e:α→List UInt8) (m:Nat):∀ (l:List α),(∀ x ∈ l,(e x).length≤m)→(l.flatMap e).length≤m * l.length
 | [],_=>by simp
 | x :: l,h=>by
  have h1:=flat_bound e m l fun y hy=>h y (by simp [hy])
  have h2:=h x (by simp)
  rw [List.flatMap_cons,List.length_append,List.length_cons,Nat.mul_add]
  omega
theorem flat_take {α:Type} (e:α→List UInt8) (l:List α) (i:Nat):((l.take i).flatMap e).length≤(l.flatMap e).length:=by
 have:(l.flatMap e).length=((l.take i).flatMap e).length+((l.drop i).flatMap e).length:=by
  rw [← List.length_append,← List.flatMap_append,List.take_append_drop]
 omega
theorem ePair_len {p:api_Pair} (h:p.Key.length≤8∧p.Value.length≤16):(ePair p).length≤60:=by
 have b1:=eT_len p.Key (by unfold okS; omega)
 have b2:=eT_len p.Value (by unfold okS; omega)
 unfold ePair
 rw [List.length_append]
 omega
theorem eSess_len {s:api_Sess} (h:okN s.Client∧okN s.Seq∧rightA s.Answer=true):(eSess s).length≤60:=by
 have a1:=eN_len _ h.1
 have a2:=eN_len _ h.2.1
 have b1:=eAns_len h.2.2
 unfold eSess
 simp only [List.flatMap_cons,List.flatMap_nil,List.length_append,List.length_nil]
 omega
theorem eImg_parts {x:api_Image} (h:rightJ x=true):(x.Pairs.flatMap ePair).length≤480∧(x.Sess.flatMap eSess).length≤240∧(eImg x).length≤800:=by
 obtain ⟨h1,h2,h3,h4,h5,h6⟩:=rightJ_small h
 have a1:=eN_len _ h1
 have a2:=eN_len _ h2
 have a3:=eN_len (x.Pairs.length:Int) (by unfold okN; omega)
 have a4:=eN_len (x.Sess.length:Int) (by unfold okN; omega)
 have b1:=flat_bound ePair 60 x.Pairs fun p hp=>ePair_len (h5 p hp)
 have b2:=flat_bound eSess 60 x.Sess fun p hp=>eSess_len (h6 p hp)
 have m1:60 * x.Pairs.length≤480:=by omega
 have m2:60 * x.Sess.length≤240:=by omega
 refine ⟨by omega,by omega, ?_⟩
 unfold eImg
 simp only [List.flatMap_cons,List.flatMap_nil,List.length_append,List.length_nil]
 omega
theorem layImage_plain (b:List UInt8) (x:api_Image) (hb:b.length < 700000000) (h1:x.Pairs.length < 1000000) (h2:x.Sess.length < 1000000):codec_LayImage b x=some (if rightJ x then b ++ eImg x else []):=by
 unfold codec_LayImage
 rw [rightImage_plain x h1 h2,Option.bind_some]
 cases h:rightJ x
 ·rfl
 obtain ⟨g1,g2,g3,g4,g5,g6⟩:=rightJ_small h
 obtain ⟨c1,c2,c3⟩:=eImg_parts h
 have a1:=eN_len _ g1
 have a2:=eN_len _ g2
 have a3:=eN_len (x.Pairs.length:Int) (by unfold okN; omega)
 have a4:=eN_len (x.Sess.length:Int) (by unfold okN; omega)
 have hp:=putOf_ok b (l:=[x.Shard,x.Epoch,(x.Pairs.length:Int)]) (fun z hz=>by
  simp only [List.mem_cons,List.not_mem_nil,or_false] at hz
  rcases hz with rfl | rfl | rfl
  ·exact g1
  ·exact g2
  ·unfold okN; omega)
 simp only [Bool.not_true,cond_false,if_true]
 rw [put_plain _ _ (by simp only [List.length_cons,List.length_nil]; omega),Option.bind_some,hp]
 generalize hB:b ++ [x.Shard,x.Epoch,(x.Pairs.length:Int)].flatMap eN=B at *
 have hBl:B.length≤b.length+27:=by
  rw [← hB]
  simp only [List.flatMap_cons,List.flatMap_nil,List.length_append,List.length_nil]
  omega
 have l0:codec_LayImage_L0 x (B,0)=some (B ++ x.Pairs.flatMap ePair):=by
  have e0:(B,(0:Int))=(B ++ (x.Pairs.take 0).flatMap ePair,((0:Nat):Int)):=by simp
  unfold codec_LayImage_L0
  rw [e0]
  refine loop_run (fun i=>(B ++ (x.Pairs.take i).flatMap ePair,(i:Int))) x.Pairs.length _ (fun i hi=>?_) ?_ (by omega)
  ·have h5:(x.Pairs.take (i+1)).flatMap ePair=(x.Pairs.take i).flatMap ePair ++ ePair x.Pairs[i]:=by
    rw [List.take_succ_eq_append_getElem hi,List.flatMap_append]
    simp
   have h6:=flat_take ePair x.Pairs i
   have h7:=ePair_len (g5 _ (List.getElem_mem hi))
   unfold ePair at h7
   rw [List.length_append] at h7
   unfold codec_LayImage_L0_s
   simp only
   rw [dec_t (by omega),cond_true,getI_at hi,Option.bind_some,text_plain _ _ (by simp only [List.length_append,List.flatMap_cons,List.flatMap_nil,List.length_nil]; omega) (by simp),Option.bind_some,wrap_id (by omega) (by omega),succ_cast,h5]
   unfold ePair
   simp
  ·unfold codec_LayImage_L0_s
   simp only
   rw [dec_f (by omega),cond_false,List.take_length]
 rw [l0,Option.bind_some]
 have hp2:=putOf_ok (B ++ x.Pairs.flatMap ePair) (l:=[(x.Sess.length:Int)]) (fun z hz=>by
  rw [List.mem_singleton.1 hz]
  unfold okN
  omega)
 rw [put_plain _ _ (by simp only [List.length_append,List.length_cons,List.length_nil]; omega),Option.bind_some,hp2]
 generalize hD:B ++ x.Pairs.flatMap ePair ++ [(x.Sess.length:Int)].flatMap eN=D at *
 have hDl:D.length≤b.length+600:=by
  rw [← hD]
  simp only [List.flatMap_cons,List.flatMap_nil,List.length_append,List.length_nil]
  omega
 have l1:codec_LayImage_L1 x (D,0)=some (D ++ x.Sess.flatMap eSess):=by
  have e0:(D,(0:Int))=(D ++ (x.Sess.take 0).flatMap eSess,((0:Nat):Int)):=by simp
  unfold codec_LayImage_L1
  rw [e0]
  refine loop_run (fun i=>(D ++ (x.Sess.take i).flatMap eSess,(i:Int))) x.Sess.length _ (fun i hi=>?_) ?_ (by omega)
  ·have h5:(x.Sess.take (i+1)).flatMap eSess=(x.Sess.take i).flatMap eSess ++ eSess x.Sess[i]:=by
    rw [List.take_succ_eq_append_getElem hi,List.flatMap_append]
    simp
   have h6:=flat_take eSess x.Sess i
   obtain ⟨q1,q2,q3⟩:=g6 _ (List.getElem_mem hi)
   have h7:=eSess_len ⟨q1,q2,q3⟩
   unfold eSess at h7
   rw [List.length_append] at h7
   have hp3:=putOf_ok (D ++ (x.Sess.take i).flatMap eSess) (l:=[x.Sess[i].Client,x.Sess[i].Seq]) (fun z hz=>by
    simp only [List.mem_cons,List.not_mem_nil,or_false] at hz
    rcases hz with rfl | rfl <;> assumption)
   unfold codec_LayImage_L1_s
   simp only
   rw [dec_t (by omega),cond_true,getI_at hi,Option.bind_some,put_plain _ _ (by simp only [List.length_append,List.length_cons,List.length_nil]; omega),Option.bind_some,hp3,layAns_plain _ _ (by simp only [List.length_append]; omega),q3,Option.bind_some,wrap_id (by omega) (by omega),succ_cast,h5]
   unfold eSess
   simp
  ·unfold codec_LayImage_L1_s
   simp only
   rw [dec_f (by omega),cond_false,List.take_length]
 rw [l1,Option.bind_some,← hD,← hB]
 unfold eImg
 simp
end Go.Proofs.YtgahmammhclobaaGreat
