import Derived.Test.YtgahmammhclobaaGreatK8
import Derived.Test.YtgahmammhclobaaGreatY5
set_option linter.all false
set_option linter.unusedSimpArgs false
namespace Go.Proofs.YtgahmammhclobaaGreat
def headM (m:api_Msg):List Int:=[m.Kind,m.From,m.To,m.Shard,m.Epoch,m.Weight,m.Load,m.Nonce]
def okE (x:api_Entry):Prop:=okN x.Inc∧0≤x.Status∧x.Status≤2∧okN x.Stamp∧okN x.Load
instance (x:api_Entry):Decidable (okE x):=by unfold okE; infer_instance
def MC (m:api_Msg):Prop:=1≤m.Kind∧m.Kind≤10∧(∀ n ∈ headM m,okN n)∧m.Path.length≤5∧m.Table.length≤5∧(∀ n ∈ m.Path,okN n)∧(∀ x ∈ m.Table,okE x)∧rightQ m.Req=true∧rightA m.Answer=true∧rightJ m.Image=true
instance (m:api_Msg):Decidable (MC m):=by unfold MC; infer_instance
def rightM (m:api_Msg):Bool:=decide (MC m)
def smallM (m:api_Msg):Prop:=m.Path.length < 1000000∧m.Table.length < 1000000∧small m.Image
theorem number_plain (n:Int):msg_number n=some (decide (okN n)):=by
 unfold msg_number
 by_cases c:n ≥ 0
 ·rw [dec_t c,cond_true]
  congr 1
  rw [decide_eq_decide]
  unfold okN
  omega
 ·rw [dec_f c,dec_f (show ¬ okN n by unfold okN; omega)]; rfl
theorem wrong_plain (x:api_Entry):msg_wrong x=some (!decide (okE x)):=by
 unfold msg_wrong
 rw [number_plain,number_plain,number_plain]
 simp only [Option.bind_some]
 by_cases a:okN x.Inc
 case neg=>rw [dec_f a,dec_f (show ¬ okE x from fun h=>a h.1)]; rfl
 by_cases b:x.Status < 0
 case pos=>rw [dec_t a,dec_t b,dec_f (show ¬ okE x from fun h=>by have:=h.2.1; omega)]; rfl
 by_cases c:x.Status > 2
 case pos=>rw [dec_t a,dec_f b,dec_t c,dec_f (show ¬ okE x from fun h=>by have:=h.2.2.1; omega)]; rfl
 by_cases d:okN x.Stamp
 case neg=>rw [dec_t a,dec_f b,dec_f c,dec_f d,dec_f (show ¬ okE x from fun h=>d h.2.2.2.1)]; rfl
 by_cases e:okN x.Load
 case neg=>rw [dec_t a,dec_f b,dec_f c,dec_t d,dec_f e,dec_f (show ¬ okE x from fun h=>e h.2.2.2.2)]; rfl
 rw [dec_t a,dec_f b,dec_f c,dec_t d,dec_t e,dec_t (show okE x from ⟨a,by omega,by omega,d,e⟩)]; rfl
theorem outsM_plain (l:List Int) (h:l.length < 1000000):slices_ContainsFunc_int_int_2 l=some (l.any fun n=>!decide (okN n)):=by
 obtain ⟨e,e1,e2⟩:=anyloop l (fun n=>!decide (okN n)) h (slices_IndexFunc_int_int_2_L0_s l) (fun i=>(i:Int)) (fun i hi=>by
  unfold slices_IndexFunc_int_int_2_L0_s msg_Right_1
  rw [dec_t (by omega),cond_true,getI_at hi,Option.bind_some,number_plain,Option.bind_some,Option.bind_some,wrap_id (by omega) (by omega),succ_cast]) (by
  unfold slices_IndexFunc_int_int_2_L0_s
  rw [dec_f (by omega),cond_false])
 unfold slices_ContainsFunc_int_int_2 slices_IndexFunc_int_int_2 slices_IndexFunc_int_int_2_L0
 rw [e1,Option.bind_some]
 rcases e2 with ⟨q,i,rfl⟩ | ⟨q,rfl⟩
 ·rw [q]
  simp only [isL,getL,cond_true,Option.bind_some]
  rw [dec_t (by omega)]
 ·rw [q]; rfl
theorem wrongs_plain (l:List api_Entry) (h:l.length < 1000000):slices_ContainsFunc_api_Entry_api_Entry l=some (l.any fun n=>!decide (okE n)):=by
 obtain ⟨e,e1,e2⟩:=anyloop l (fun n=>!decide (okE n)) h (slices_IndexFunc_api_Entry_api_Entry_L0_s l) (fun i=>(i:Int)) (fun i hi=>by
  unfold slices_IndexFunc_api_Entry_api_Entry_L0_s
  rw [dec_t (by omega),cond_true,getI_at hi,Option.bind_some,wrong_plain,Option.bind_some,wrap_id (by omega) (by omega),succ_cast]) (by
  unfold slices_IndexFunc_api_Entry_api_Entry_L0_s
  rw [dec_f (by omega),cond_false])
 unfold slices_ContainsFunc_api_Entry_api_Entry slices_IndexFunc_api_Entry_api_Entry slices_IndexFunc_api_Entry_api_Entry_L0
 rw [e1,Option.bind_some]
 rcases e2 with ⟨q,i,rfl⟩ | ⟨q,rfl⟩
 ·rw [q]
  simp only [isL,getL,cond_true,Option.bind_some]
  rw [dec_t (by omega)]
 ·rw [q]; rfl
theorem any_not {α:Type} (P:α→Prop) [DecidablePred P] (l:List α):(l.any fun n=>!decide (P n)) = !decide (∀ n ∈ l,P n):=by
 rw [Bool.eq_iff_iff]
 simp
theorem right_msg (m:api_Msg) (h:smallM m):msg_Right m=some (rightM m):=by
 unfold msg_Right msg_Right_J2 msg_Right_J1 msg_Right_J0 msg_head rightM
 have o1:=outsM_plain (headM m) (by simp [headM])
 unfold headM at o1
 rw [any_not] at o1
 have o2:=outsM_plain m.Path h.1
 have o3:=wrongs_plain m.Table h.2.1
 rw [any_not] at o2 o3
 simp only [Option.bind_some,o1,o2,o3,rightReq_plain,rightAns_plain,rightImage_plain m.Image h.2.2.1 h.2.2.2]
 by_cases k1:m.Kind < 1
 ·rw [dec_t k1,dec_f (show ¬ MC m by rintro ⟨p,_⟩; omega)]; rfl
 by_cases k2:m.Kind > 10
 ·rw [dec_f k1,dec_t k2,dec_f (show ¬ MC m by rintro ⟨_,p,_⟩; omega)]; rfl
 rw [dec_f k1,dec_f k2]
 simp only [cond_false,Option.bind_some]
 by_cases k3:∀ n ∈ [m.Kind,m.From,m.To,m.Shard,m.Epoch,m.Weight,m.Load,m.Nonce],okN n
 case neg=>rw [dec_f k3,dec_f (show ¬ MC m from fun p=>k3 p.2.2.1)]; rfl
 rw [dec_t k3]
 by_cases k4:(m.Path.length:Int) > 5
 ·rw [dec_t k4,dec_f (show ¬ MC m by rintro ⟨_,_,_,p,_⟩; omega)]; rfl
 by_cases k5:(m.Table.length:Int) > 5
 ·rw [dec_f k4,dec_t k5,dec_f (show ¬ MC m by rintro ⟨_,_,_,_,p,_⟩; omega)]; rfl
 rw [dec_f k4,dec_f k5]
 by_cases k6:∀ n ∈ m.Path,okN n
 case neg=>rw [dec_f k6,dec_f (show ¬ MC m from fun p=>k6 p.2.2.2.2.2.1)]; rfl
 by_cases k7:∀ n ∈ m.Table,okE n
 case neg=>rw [dec_t k6,dec_f k7,dec_f (show ¬ MC m from fun p=>k7 p.2.2.2.2.2.2.1)]; rfl
 rw [dec_t k6,dec_t k7]
 simp only [Bool.not_true,cond_false,Option.bind_some,isL]
 cases k8:rightQ m.Req
 case false=>rw [dec_f (show ¬ MC m from fun p=>by have:=p.2.2.2.2.2.2.2.1; rw [k8] at this; cases this)]; rfl
 cases k9:rightA m.Answer
 case false=>rw [dec_f (show ¬ MC m from fun p=>by have:=p.2.2.2.2.2.2.2.2.1; rw [k9] at this; cases this)]; rfl
 cases k0:rightJ m.Image
 case false=>rw [dec_f (show ¬ MC m from fun p=>by have:=p.2.2.2.2.2.2.2.2.2; rw [k0] at this; cases this)]; rfl
 rw [dec_t (show MC m from ⟨by omega,by omega,k3,by omega,by omega,k6,k7,k8,k9,k0⟩)]
 rfl
def bitB (b:Bool):Int:=if b then 1 else 0
def eEnt (x:api_Entry):List UInt8:=[x.Inc,x.Status,x.Stamp,x.Load,bitB x.Drain].flatMap eN
def eMsg (m:api_Msg):List UInt8:=(headM m).flatMap eN ++ (eN (bitB m.Drain) ++ (eReq m.Req ++ (eAns m.Answer ++ (eN (m.Path.length:Int) ++ (m.Path.flatMap eN ++ (eN (m.Table.length:Int) ++ (m.Table.flatMap eEnt ++ eImg m.Image)))))))
def pBit:Pr Bool:=pSeq (pCnt 1) fun n b=>.inr (n == 1,b)
def pEnt:Pr api_Entry:=pSeq (pRep pNum 4) fun n=>pSeq pBit fun d b=>.inr (⟨n.getD 0 0,n.getD 1 0,n.getD 2 0,n.getD 3 0,d⟩,b)
def mkM (n:List Int) (d:Bool) (q:api_Req) (a:api_Answer) (p:List Int) (t:List api_Entry) (x:api_Image):api_Msg:=⟨n.getD 0 0,n.getD 1 0,n.getD 2 0,n.getD 3 0,n.getD 4 0,n.getD 5 0,n.getD 6 0,n.getD 7 0,d,q,a,p,t,x⟩
def pMsg:Pr api_Msg:=pSeq (pRep pNum 8) fun n=>pSeq pBit fun d=>pSeq pReq fun q=>pSeq pAns fun a=>pSeq (pCnt 5) fun c=>pSeq (pRep pNum c.toNat) fun p=>pSeq (pCnt 5) fun k=>pSeq (pRep pEnt k.toNat) fun t=>pSeq pImg fun x b=>.inr (mkM n d q a p t x,b)
theorem bit_lays (b:Bool):Lays pBit b (eN (bitB b)):=by
 have h:=cnt_lays (m:=1) (n:=if b then 1 else 0) (by cases b <;> decide) (by cases b <;> decide)
 have e:(((if b then 1 else 0:Nat)):Int)=bitB b:=by cases b <;> rfl
 rw [e] at h
 exact h.last fun r=>by cases b <;> rfl
theorem ent_lays {x:api_Entry} (h:okE x):Lays pEnt x (eEnt x):=by
 obtain ⟨h1,h2,h3,h4,h5⟩:=h
 have a:=Lays.rep (p:=pNum) (enc:=eN) [x.Inc,x.Status,x.Stamp,x.Load] (fun y hy=>f_num.lays (by
  simp only [List.mem_cons,List.not_mem_nil,or_false] at hy
  rcases hy with rfl | rfl | rfl | rfl
  ·exact h1
  ·unfold okN; omega
  ·exact h4
  ·exact h5))
 have e:eEnt x=[x.Inc,x.Status,x.Stamp,x.Load].flatMap eN ++ eN (bitB x.Drain):=by
  unfold eEnt
  simp
 rw [e]
 exact a.seq ((bit_lays x.Drain).last fun r=>rfl)
theorem rightM_parts {m:api_Msg} (h:rightM m=true):MC m:=of_decide_eq_true h
theorem msg_lays {m:api_Msg} (h:rightM m=true):Lays pMsg m (eMsg m):=by
 obtain ⟨_,_,h3,h4,h5,h6,h7,h8,h9,h0⟩:=rightM_parts h
 have a:=Lays.rep (p:=pNum) (enc:=eN) (headM m) (fun x hx=>f_num.lays (h3 x hx))
 have b:=Lays.rep (p:=pNum) (enc:=eN) m.Path (fun x hx=>f_num.lays (h6 x hx))
 have c:=Lays.rep (p:=pEnt) (enc:=eEnt) m.Table (fun x hx=>ent_lays (h7 x hx))
 exact a.seq ((bit_lays m.Drain).seq ((req_lays h8).seq ((ans_lays h9).seq ((cnt_lays (m:=5) (n:=m.Path.length) (by omega) (by omega)).seq (b.seq ((cnt_lays (m:=5) (n:=m.Table.length) (by omega) (by omega)).seq (c.seq ((img_lays h0).last fun _=>rfl))))))))
theorem bit_okN (b:Bool):okN (bitB b):=by cases b <;> decide
theorem eEnt_len {x:api_Entry} (h:okE x):(eEnt x).length≤45:=by
 obtain ⟨h1,h2,h3,h4,h5⟩:=h
 have a1:=eN_len _ h1
 have a2:=eN_len x.Status (by unfold okN; omega)
 have a3:=eN_len _ h4
 have a4:=eN_len _ h5
 have a5:=eN_len _ (bit_okN x.Drain)
 unfold eEnt
 simp only [List.flatMap_cons,List.flatMap_nil,List.length_append,List.length_nil]
 omega
theorem eMsg_len {m:api_Msg} (h:rightM m=true):(eMsg m).length≤2000:=by
 obtain ⟨_,_,h3,h4,h5,h6,h7,h8,h9,h0⟩:=rightM_parts h
 have a:=flat_bound eN 9 (headM m) fun x hx=>eN_len x (h3 x hx)
 have b:=flat_bound eN 9 m.Path fun x hx=>eN_len x (h6 x hx)
 have c:=flat_bound eEnt 45 m.Table fun x hx=>eEnt_len (h7 x hx)
 have d:=eReq_len h8
 have e:=eAns_len h9
 have f:=(eImg_parts h0).2.2
 have g1:=eN_len _ (bit_okN m.Drain)
 have g2:=eN_len (m.Path.length:Int) (by unfold okN; omega)
 have g3:=eN_len (m.Table.length:Int) (by unfold okN; omega)
 have hd:(headM m).length=8:=rfl
 rw [hd] at a
 unfold eMsg
 simp only [List.length_append]
 omega
theorem bit_plain (b:Bool):msg_bit b=some (bitB b):=by
 cases b <;> rfl
theorem lay_msg (m:api_Msg) (h:smallM m):msg_Lay m=some (if rightM m then eMsg m else []):=by
 unfold msg_Lay
 rw [right_msg m h,Option.bind_some]
 cases hr:rightM m
 ·rfl
 obtain ⟨_,_,h3,h4,h5,h6,h7,h8,h9,h0⟩:=rightM_parts hr
 have hl:=eMsg_len hr
 unfold eMsg at hl ⊢
 simp only [List.length_append] at hl
 simp only [Bool.not_true,cond_false,if_true]
 unfold msg_head
 rw [Option.bind_some,put_plain _ _ (by simp),Option.bind_some,putOf_ok [] (l:=[m.Kind,m.From,m.To,m.Shard,m.Epoch,m.Weight,m.Load,m.Nonce]) h3,bit_plain,Option.bind_some,List.nil_append]
 show (nums_Put ((headM m).flatMap eN) [bitB m.Drain]).bind _=_
 rw [put_plain _ _ (by simp only [List.length_cons,List.length_nil]; omega),Option.bind_some,putOf_ok _ (l:=[bitB m.Drain]) (fun x hx=>by rw [List.mem_singleton.1 hx]; exact bit_okN _)]
 simp only [List.flatMap_cons,List.flatMap_nil,List.append_nil]
 rw [layReq_plain _ _ (by simp only [List.length_append]; omega),h8,if_pos rfl,Option.bind_some,layAns_plain _ _ (by simp only [List.length_append]; omega),h9,if_pos rfl,Option.bind_some]
 rw [put_plain _ _ (by simp only [List.length_append,List.length_cons,List.length_nil]; omega),Option.bind_some,putOf_ok _ (l:=[(m.Path.length:Int)]) (fun x hx=>by rw [List.mem_singleton.1 hx]; unfold okN; omega)]
 simp only [List.flatMap_cons,List.flatMap_nil,List.append_nil]
 rw [put_plain _ _ (by simp only [List.length_append]; omega),Option.bind_some,putOf_ok _ (l:=m.Path) h6]
 rw [put_plain _ _ (by simp only [List.length_append,List.length_cons,List.length_nil]; omega),Option.bind_some,putOf_ok _ (l:=[(m.Table.length:Int)]) (fun x hx=>by rw [List.mem_singleton.1 hx]; unfold okN; omega)]
 simp only [List.flatMap_cons,List.flatMap_nil,List.append_nil]
 generalize hB:(headM m).flatMap eN ++ eN (bitB m.Drain) ++ eReq m.Req ++ eAns m.Answer ++ eN (m.Path.length:Int) ++ m.Path.flatMap eN ++ eN (m.Table.length:Int)=B
 have hBl:B.length≤2000:=by
  rw [← hB]
  simp only [List.length_append]
  omega
 have l0:msg_Lay_L0 m (B,0)=some (B ++ m.Table.flatMap eEnt):=by
  have e0:(B,(0:Int))=(B ++ (m.Table.take 0).flatMap eEnt,((0:Nat):Int)):=by simp
  unfold msg_Lay_L0
  rw [e0]
  refine loop_run (fun i=>(B ++ (m.Table.take i).flatMap eEnt,(i:Int))) m.Table.length _ (fun i hi=>?_) ?_ (by omega)
  ·have q5:(m.Table.take (i+1)).flatMap eEnt=(m.Table.take i).flatMap eEnt ++ eEnt m.Table[i]:=by
    rw [List.take_succ_eq_append_getElem hi,List.flatMap_append]
    simp
   have q6:=flat_take eEnt m.Table i
   obtain ⟨q1,q2,q3,q4,q7⟩:=h7 _ (List.getElem_mem hi)
   have hp:=putOf_ok (B ++ (m.Table.take i).flatMap eEnt) (l:=[m.Table[i].Inc,m.Table[i].Status,m.Table[i].Stamp,m.Table[i].Load,bitB m.Table[i].Drain]) (fun z hz=>by
    simp only [List.mem_cons,List.not_mem_nil,or_false] at hz
    rcases hz with rfl | rfl | rfl | rfl | rfl
    ·exact q1
    ·unfold okN; omega
    ·exact q4
    ·exact q7
    ·exact bit_okN _)
   unfold msg_Lay_L0_s
   simp only
   rw [dec_t (by omega),cond_true,getI_at hi,Option.bind_some,bit_plain,Option.bind_some,put_plain _ _ (by simp only [List.length_append,List.length_cons,List.length_nil]; omega),Option.bind_some,hp,wrap_id (by omega) (by omega),succ_cast,q5]
   unfold eEnt
   rw [List.append_assoc]
  ·unfold msg_Lay_L0_s
   simp only
   rw [dec_f (by omega),cond_false,List.take_length]
 rw [l0,Option.bind_some,layImage_plain _ _ (by rw [List.length_append]; omega) h.2.2.1 h.2.2.2,h0,if_pos rfl,Option.bind_some,← hB]
 simp only [List.append_assoc]
end Go.Proofs.YtgahmammhclobaaGreat
