import Derived.Test.YtgahmammhclobaaGreatKg
import Derived.Test.YtgahmammhclobaaGreatG4
import Derived.Test.YtgahmammhclobaaGreatXrMsgBack
set_option linter.all false
set_option linter.unusedSimpArgs false
set_option maxRecDepth 100000
namespace Go.Proofs.YtgahmammhclobaaGreat
theorem known10:osmosislaw10_known=some true:=by decide +kernel
theorem mayReq_some (r:api_Req):∃ b,oR_MayReq r=some b:=by
 unfold oR_MayReq oR_NoneReq
 rw [rreq_plain,Option.bind_some]
 generalize (r.Client == 0 && (r.Seq == 0 && (r.Op.Kind == 0 && (r.Op.Key == ([]:List UInt8) && (r.Op.Value == ([]:List UInt8) && (r.Op.Old == ([]:List UInt8) && true))))))=z
 cases z
 ·exact ⟨_,rfl⟩
 ·exact ⟨_,rfl⟩
theorem hmay_some (n:Int):∃ v,oH_May n=some v:=by
 unfold oH_May
 obtain ⟨v,hv⟩:=num_some n
 simp only [hv,Option.bind_some]
 split <;> exact ⟨_,rfl⟩
theorem entry_some (x:oH_RawEntry):∃ e,oH_Entry x=some e:=by
 obtain ⟨y1,h1⟩:=pick_any x.Inc 4 (by omega) (by omega)
 obtain ⟨y2,h2⟩:=pick_any x.Status 3 (by omega) (by omega)
 obtain ⟨y3,h3⟩:=pick_any x.Stamp 5 (by omega) (by omega)
 obtain ⟨y4,h4⟩:=pick_any x.Load 12 (by omega) (by omega)
 obtain ⟨y5,h5⟩:=pick_any x.Inc 19 (by omega) (by omega)
 obtain ⟨y6,h6⟩:=hmay_some x.Stamp
 have h1:oH_Pick x.Inc 4=some y1:=h1
 have h2:oH_Pick x.Status 3=some y2:=h2
 have h3:oH_Pick x.Stamp 5=some y3:=h3
 have h4:oH_Pick x.Load 12=some y4:=h4
 have h5:oH_Pick x.Inc 19=some y5:=h5
 unfold oH_Entry
 simp only [h1,h2,h3,h4,h5,h6,Option.bind_some]
 cases (y5 == 18) <;> exact ⟨_,rfl⟩
theorem table_some (l:List oH_RawEntry):∃ t,oH_Table l 5=some t∧t.length≤5:=by
 have loop:∃ e,oH_Table_L1 l 5 (0,[])=some e∧e.length≤5:=by
  refine loopX_inv (fun (s:Int × List api_Entry)=>5 - s.1.toNat) (fun s=>∃ (i:Nat) (t:List api_Entry),s=((i:Int),t)∧i≤5∧t.length=i) _ ?_ KK _ ⟨0,[],rfl,by omega,rfl⟩ (by have:=KK_big; simp only; omega)
  rintro s ⟨i,t,rfl,g1,g2⟩
  simp only [oH_Table_L1_s,oH_Table_J0]
  by_cases c:i < l.length
  case neg =>
   right
   rw [dec_f (by omega),cond_false]
   exact ⟨_,rfl,by omega⟩
  by_cases c2:i < 5
  case neg =>
   right
   rw [dec_t (by omega),cond_true,dec_f (by omega),cond_false]
   exact ⟨_,rfl,by omega⟩
  left
  rw [dec_t (by omega),cond_true,dec_t (by omega),cond_true,Option.bind_some]
  simp only [isL,cond_true]
  obtain ⟨y,hy⟩:=entry_some l[i]
  rw [getI_at c,Option.bind_some,hy,Option.bind_some,gd_true (by unfold fitsB; simp; omega),wrap_id (by omega) (by omega),succ_cast]
  exact ⟨_,rfl,⟨i+1,_,rfl,by omega,by simp; omega⟩,by simp only; omega⟩
 obtain ⟨e,e1,e2⟩:=loop
 unfold oH_Table
 rw [e1]
 exact ⟨e,rfl,e2⟩
theorem msg_some (x:oH_RawMsg):∃ m,oH_Msg x 5=some m∧smallM m:=by
 obtain ⟨x1,h1⟩:=pick_any x.Kind 10 (by omega) (by omega)
 have h1:oH_Pick x.Kind 10=some x1:=h1
 obtain ⟨x2,h2⟩:=pick_any x.From 5 (by omega) (by omega)
 have h2:oH_Pick x.From 5=some x2:=h2
 obtain ⟨x3,h3⟩:=pick_any x.To 5 (by omega) (by omega)
 have h3:oH_Pick x.To 5=some x3:=h3
 obtain ⟨x4,h4⟩:=pick_any x.Shard 6 (by omega) (by omega)
 have h4:oH_Pick x.Shard 6=some x4:=h4
 obtain ⟨x5,h5⟩:=pick_any x.Epoch 6 (by omega) (by omega)
 have h5:oH_Pick x.Epoch 6=some x5:=h5
 obtain ⟨x6,h6⟩:=pick_any x.Weight 9 (by omega) (by omega)
 have h6:oH_Pick x.Weight 9=some x6:=h6
 obtain ⟨x7,h7⟩:=pick_any x.Load 20 (by omega) (by omega)
 have h7:oH_Pick x.Load 20=some x7:=h7
 obtain ⟨x8,h8⟩:=pick_any x.Nonce 4 (by omega) (by omega)
 have h8:oH_Pick x.Nonce 4=some x8:=h8
 obtain ⟨x9,h9⟩:=pick_any x.Why 12 (by omega) (by omega)
 have h9:oH_Pick x.Why 12=some x9:=h9
 obtain ⟨x14,h14⟩:=pick_any x.Bend 5 (by omega) (by omega)
 have h14:oH_Pick x.Bend 5=some x14:=h14
 obtain ⟨x33,h33⟩:=pick_any x.Bend 4 (by omega) (by omega)
 have h33:oH_Pick x.Bend 4=some x33:=h33
 obtain ⟨x37,h37⟩:=pick_any x.Bend 22 (by omega) (by omega)
 have h37:oH_Pick x.Bend 22=some x37:=h37
 obtain ⟨x40,h40⟩:=pick_any x.Kind 14 (by omega) (by omega)
 have h40:oH_Pick x.Kind 14=some x40:=h40
 obtain ⟨x42,h42⟩:=pick_any x.Why 15 (by omega) (by omega)
 have h42:oH_Pick x.Why 15=some x42:=h42
 obtain ⟨x10,h10⟩:=value_some x.Why
 obtain ⟨x11,h11,l11⟩:=table_some x.Table
 obtain ⟨x12,h12⟩:=req_some x.Op
 obtain ⟨b13,h13⟩:=mayReq_some x12
 obtain ⟨x35,h35,a35,b35⟩:=image2_some x.Shard x.Epoch x.Ops 0
 obtain ⟨x38,h38⟩:=num_some x.Nonce
 obtain ⟨x39,h39⟩:=num_some x.From
 obtain ⟨x41,h41,a41,b41⟩:=image_some x.Shard x.Epoch x.Ops (IntKind.i64.wrap (Int.tdiv x.Bend 22))
 have j0:∃ y,oH_Msg_J0 x12 x 5 x1 x2 x3 x4 x5 x6 x7 x8 x9 x10 x11=some y:=by
  unfold oH_Msg_J0
  simp only [h13,h14,Option.bind_some]
  cases b13 <;> cases decide (x14 < 4) <;> exact ⟨_,rfl⟩
 obtain ⟨x15,h15⟩:=j0
 have loop:∃ e,oH_Msg_L2 x 5 x1 x2 x3 x4 x5 x6 x7 x8 x15 x9 x10 x11 (0,[])=some e∧e.length≤5:=by
  refine loopX_inv (fun (s:Int × List Int)=>5 - s.1.toNat) (fun s=>∃ (i:Nat) (t:List Int),s=((i:Int),t)∧i≤5∧t.length=i) _ ?_ KK _ ⟨0,[],rfl,by omega,rfl⟩ (by have:=KK_big; simp only; omega)
  rintro s ⟨i,t,rfl,g1,g2⟩
  simp only [oH_Msg_L2_s,oH_Msg_J1]
  by_cases c:i < x.Path.length
  case neg =>
   right
   rw [dec_f (by omega),cond_false]
   exact ⟨_,rfl,by omega⟩
  by_cases c2:i < 5
  case neg =>
   right
   rw [dec_t (by omega),cond_true,dec_f (by omega),cond_false]
   exact ⟨_,rfl,by omega⟩
  left
  rw [dec_t (by omega),cond_true,dec_t (by omega),cond_true,Option.bind_some]
  simp only [isL,cond_true]
  obtain ⟨y,hy⟩:=pick_any x.Path[i] 5 (by omega) (by omega)
  have hy:oH_Pick x.Path[i] 5=some y:=hy
  rw [getI_at c,Option.bind_some,hy,Option.bind_some,gd_true (by unfold fitsB; simp; omega),wrap_id (by omega) (by omega),succ_cast]
  exact ⟨_,rfl,⟨i+1,_,rfl,by omega,by simp; omega⟩,by simp only; omega⟩
 obtain ⟨x32,h32,l32⟩:=loop
 have j4:∃ y,oH_Msg_J4 x1 x x2 x3 x4 x5 x6 x7 x8 x15 x9 x10 x32 x11=some y∧y.2.2.1.length≤9∧y.2.2.2.length≤9:=by
  unfold oH_Msg_J4 oH_Msg_J3
  simp only [h33,h35,Option.bind_some]
  cases (IntKind.i64.wrap (1+x1) == 6)
  ·simp only [cond_false,Option.bind_some]
   cases (x33 == 1)
   ·exact ⟨_,rfl,by simp,by simp⟩
   ·exact ⟨_,rfl,a35,b35⟩
  ·exact ⟨_,rfl,a35,b35⟩
 obtain ⟨x36,h36,a36,b36⟩:=j4
 unfold oH_Msg
 simp only [h1,h2,h3,h4,h5,h6,h7,h8,h9,h10,h11,h12,h15,h32,h36,h37,h38,h39,h40,h41,h42,Option.bind_some]
 have s1:x36.2.2.1.length < 1000000∧x36.2.2.2.length < 1000000:=⟨by omega,by omega⟩
 have s2:x41.Pairs.length < 1000000∧x41.Sess.length < 1000000:=⟨by omega,by omega⟩
 have s3:x32.length < 1000000:=by omega
 have s4:x11.length < 1000000:=by omega
 have s5:(x32 ++ [1,2,3,4,5,6]).length < 1000000:=by simp; omega
 cases (x37 == 16)
 case true=>exact ⟨_,rfl,s3,s4,s1⟩
 cases (x37 == 17)
 case true=>exact ⟨_,rfl,s3,s4,s1⟩
 cases (x37 == 18)
 case true=>exact ⟨_,rfl,s3,s4,s1⟩
 cases (x37 == 19)
 case true=>exact ⟨_,rfl,s3,s4,s2⟩
 cases (x37 == 20)
 case true=>exact ⟨_,rfl,s3,s4,s1⟩
 cases (x37 == 21)
 case true =>
  simp only [cond_true,cond_false]
  rw [gd_true (by unfold fitsB; simp; omega)]
  exact ⟨_,rfl,s5,s4,s1⟩
 exact ⟨_,rfl,s3,s4,s1⟩
theorem msg_eqv (a b:api_Msg):(a.Kind=b.Kind∧a.From=b.From∧a.To=b.To∧a.Shard=b.Shard∧a.Epoch=b.Epoch∧a.Weight=b.Weight∧a.Load=b.Load∧a.Nonce=b.Nonce∧a.Drain=b.Drain∧a.Req=b.Req∧a.Answer=b.Answer∧a.Path=b.Path∧a.Table=b.Table∧a.Image=b.Image)↔a=b:=by
 obtain ⟨⟩:=a; obtain ⟨⟩:=b
 simp
theorem ent_eqv (x y:api_Entry):(x.Inc=y.Inc∧x.Status=y.Status∧x.Stamp=y.Stamp∧x.Load=y.Load∧x.Drain=y.Drain)↔x=y:=by
 obtain ⟨a,b,c,d,e⟩:=x; obtain ⟨a',b',c',d',e'⟩:=y
 simp
instance:DecidableEq api_Entry:=fun x y=>decidable_of_iff _ (ent_eqv x y)
theorem sameTable (a b:List api_Entry) (h:a.length < 1000000):oR_SameTable a b=some (decide (a=b)):=by
 unfold oR_SameTable
 by_cases c:a.length=b.length
 ·rw [bne_f (by omega),cond_false]
  obtain ⟨e,e1,e2⟩:=eqloop a b (fun x y=>(x.Inc == y.Inc && (x.Status == y.Status && (x.Stamp == y.Stamp && (x.Load == y.Load && (x.Drain == y.Drain && true)))))) (fun x y=>by rw [← ent_eqv]; simp) h c (oR_SameTable_L0_s a b) (fun _=>rfl)
  unfold oR_SameTable_L0
  rw [e1,Option.bind_some,e2]
  by_cases q:a=b <;> simp [q]
 ·rw [bne_t (by omega),dec_f (fun e=>c (by rw [e]))]; rfl
theorem mans_eqv (x y:api_Answer):(x.Why == y.Why && (x.Value == y.Value && true))=true↔x=y:=by
 obtain ⟨a,b⟩:=x; obtain ⟨a',b'⟩:=y
 simp
theorem smsg (a b:api_Msg) (h:smallM a):∃ v,oR_SameMsg a b=some v∧(v=true↔a=b):=by
 unfold oR_SameMsg oR_SameMsg_J0
 rw [sameTable a.Table b.Table h.2.1,sameI a.Image b.Image h.2.2.1 h.2.2.2]
 rw [← msg_eqv]
 have no:∀ {P:Prop},¬ P→(false=true↔P):=by
  intro P h
  constructor
  ·intro e
   cases e
  ·intro p
   exact (h p).elim
 by_cases k0:a.Kind=b.Kind
 case neg=>exact ⟨false,by rw [bne_t k0]; rfl,no (by rintro ⟨p,_⟩; exact k0 p)⟩
 by_cases k1:a.From=b.From
 case neg=>exact ⟨false,by rw [bne_f k0,cond_false,bne_t k1]; rfl,no (by rintro ⟨_,p,_⟩; exact k1 p)⟩
 by_cases k2:a.To=b.To
 case neg=>exact ⟨false,by rw [bne_f k0,cond_false,bne_f k1,cond_false,bne_t k2]; rfl,no (by rintro ⟨_,_,p,_⟩; exact k2 p)⟩
 by_cases k3:a.Shard=b.Shard
 case neg=>exact ⟨false,by rw [bne_f k0,cond_false,bne_f k1,cond_false,bne_f k2,cond_false,bne_t k3]; rfl,no (by rintro ⟨_,_,_,p,_⟩; exact k3 p)⟩
 by_cases k4:a.Epoch=b.Epoch
 case neg=>exact ⟨false,by rw [bne_f k0,cond_false,bne_f k1,cond_false,bne_f k2,cond_false,bne_f k3,cond_false,bne_t k4]; rfl,no (by rintro ⟨_,_,_,_,p,_⟩; exact k4 p)⟩
 by_cases k5:a.Weight=b.Weight
 case neg=>exact ⟨false,by rw [bne_f k0,cond_false,bne_f k1,cond_false,bne_f k2,cond_false,bne_f k3,cond_false,bne_f k4,cond_false,bne_t k5]; rfl,no (by rintro ⟨_,_,_,_,_,p,_⟩; exact k5 p)⟩
 by_cases k6:a.Load=b.Load
 case neg=>exact ⟨false,by rw [bne_f k0,cond_false,bne_f k1,cond_false,bne_f k2,cond_false,bne_f k3,cond_false,bne_f k4,cond_false,bne_f k5,cond_false,bne_t k6]; rfl,no (by rintro ⟨_,_,_,_,_,_,p,_⟩; exact k6 p)⟩
 by_cases k7:a.Nonce=b.Nonce
 case neg=>exact ⟨false,by rw [bne_f k0,cond_false,bne_f k1,cond_false,bne_f k2,cond_false,bne_f k3,cond_false,bne_f k4,cond_false,bne_f k5,cond_false,bne_f k6,cond_false,bne_t k7]; rfl,no (by rintro ⟨_,_,_,_,_,_,_,p,_⟩; exact k7 p)⟩
 rw [bne_f k0,cond_false,bne_f k1,cond_false,bne_f k2,cond_false,bne_f k3,cond_false,bne_f k4,cond_false,bne_f k5,cond_false,bne_f k6,cond_false,bne_f k7,cond_false]
 by_cases k8:a.Drain=b.Drain
 case neg=>exact ⟨false,by rw [show (a.Drain == b.Drain)=false by simpa using k8]; rfl,no (by rintro ⟨_,_,_,_,_,_,_,_,p,_⟩; exact k8 p)⟩
 rw [show (a.Drain == b.Drain)=true by simpa using k8,req_beq]
 by_cases k9:a.Req=b.Req
 case neg=>exact ⟨false,by rw [dec_f k9]; rfl,no (by rintro ⟨_,_,_,_,_,_,_,_,_,p,_⟩; exact k9 p)⟩
 rw [dec_t k9]
 by_cases ka:a.Answer=b.Answer
 case neg=>exact ⟨false,by rw [show (a.Answer.Why == b.Answer.Why && (a.Answer.Value == b.Answer.Value && true))=false by rw [Bool.eq_false_iff]; exact fun e=>ka ((mans_eqv _ _).1 e)]; rfl,no (by rintro ⟨_,_,_,_,_,_,_,_,_,_,p,_⟩; exact ka p)⟩
 rw [(mans_eqv a.Answer b.Answer).2 ka]
 by_cases kb:a.Path.length=b.Path.length
 case neg=>exact ⟨false,by rw [bne_t (show (a.Path.length:Int)≠_ by omega)]; rfl,no (by rintro ⟨_,_,_,_,_,_,_,_,_,_,_,p,_⟩; exact kb (by rw [p]))⟩
 rw [bne_f (show (a.Path.length:Int)=_ by omega)]
 by_cases kc:a.Table=b.Table
 case neg=>exact ⟨false,by rw [dec_f kc]; rfl,no (by rintro ⟨_,_,_,_,_,_,_,_,_,_,_,_,p,_⟩; exact kc p)⟩
 rw [dec_t kc]
 obtain ⟨e,e1,e2⟩:=eqloop a.Path b.Path (fun x y=>x == y) (fun x y=>by simp) h.1 kb (oR_SameMsg_L1_s a b) (fun _=>rfl)
 have e1:oR_SameMsg_L1 a b 0=some e:=e1
 have hi:isL (.inr ():Unit ⊕ Unit)=false:=rfl
 simp only [Bool.not_true,cond_false,Option.bind_some,hi,e1]
 by_cases kd:a.Path=b.Path
 case neg=>exact ⟨false,by rw [e2,dec_t kd]; rfl,no (by rintro ⟨_,_,_,_,_,_,_,_,_,_,_,p,_⟩; exact kd p)⟩
 rw [e2,dec_f (fun h=>h kd),cond_false]
 refine ⟨_,rfl, ?_⟩
 rw [decide_eq_true_eq,img_eqv]
 exact ⟨fun e=>⟨k0,k1,k2,k3,k4,k5,k6,k7,k8,k9,ka,kd,kc,e⟩,fun e=>e.2.2.2.2.2.2.2.2.2.2.2.2.2⟩
theorem eMsg_pos (m:api_Msg):0 < (eMsg m).length:=by
 have:=encN_pos m.Kind.toNat
 unfold eMsg headM
 simp only [List.flatMap_cons,List.length_append,eN]
 omega
theorem mmax1 (n:Nat) (h:0 < n):(if (n:Int) > 1 then (n:Int) else 1)=(n:Int):=by
 split <;> omega
theorem mfew_all (b:List UInt8) (h:b.length < 1000000000):oH_Few_2 b (b.length:Int)=some b:=by
 unfold oH_Few_2
 rw [dec_f (by omega),cond_false,gd_fits1 (by omega)]
theorem osmosislaw10_MsgBack_true (x0:oH_RawMsg) (x1:oH_RawMsg) (x2:Int) (o0:ok_oH_RawMsg x0) (o1:ok_oH_RawMsg x1) (o2:okI x2) (hb:bk_oH_RawMsg x0+bk_oH_RawMsg x1+bk1 x2≤1048576):osmosislaw10_MsgBack x0 x1 x2=some true:=by
 obtain ⟨x,hx,sx⟩:=msg_some x0
 obtain ⟨y,hy,sy⟩:=msg_some x1
 unfold osmosislaw10_MsgBack
 rw [hx,Option.bind_some,hy,Option.bind_some,lay_msg x sx,Option.bind_some,lay_msg y sy,Option.bind_some,right_msg x sx,Option.bind_some]
 cases rx:rightM x
 case false =>
  simp only [Bool.false_eq_true,if_false,Bool.not_false,cond_true]
  rw [known10]
  rfl
 simp only [if_true,Bool.not_true,cond_false]
 have lx:=eMsg_len rx
 have px:=eMsg_pos x
 obtain ⟨k,k1,k2⟩:=pick_nat x2 (eMsg x).length px (by omega)
 obtain ⟨v,v1,v2⟩:=smsg x x sx
 obtain ⟨w,w1,w2⟩:=smsg x y sx
 rw [read_msg _ (by omega),readM_laid rx,Option.bind_some,mmax1 _ px,k1,Option.bind_some,slI_to _ _ (by omega),Option.bind_some,read_msg _ (by rw [List.length_take]; omega),readM_cut rx k k2,Option.bind_some,mfew_all _ (by omega),Option.bind_some,gd_fits1 (by simp; omega),read_msg _ (by simp; omega),readM_more rx,Option.bind_some,known10,Option.bind_some,cond_true]
 simp only
 rw [v1,Option.bind_some,v2.2 rfl,right_msg y sy,Option.bind_some,w1,Option.bind_some]
 simp only [cond_true,beq_self_eq_true]
 cases ry:rightM y
 ·rfl
 simp only [if_true,Bool.not_true,cond_false]
 have:(eMsg x == eMsg y)=w:=by
  rw [Bool.eq_iff_iff,w2,beq_iff_eq]
  exact ⟨fun e=>((msg_lays rx).inj (msg_lays ry) (r:=[]) (s:=[]) (by simpa using e)).1,fun e=>by rw [e]⟩
 rw [this,beq_self_eq_true]
end Go.Proofs.YtgahmammhclobaaGreat
