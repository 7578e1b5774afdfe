import Derived.Test.YtgahmammhclobaaGreatKf
set_option linter.all false
set_option linter.unusedSimpArgs false
namespace Go.Proofs.YtgahmammhclobaaGreat
abbrev Mdr:=msg_reader
def Mdx {α:Type} (P:α→Prop) (f:Mdr→Option (α × Mdr)) (p:Pr α):Prop:=∀ b e,b.length < 500000000→(e≠0→∃ x,P x∧f ⟨b,e⟩=some (x,⟨b,e⟩))∧(match p b with
 | .inl er=>∃ x s,P x∧f ⟨b,0⟩=some (x,⟨s,er⟩)∧s.length≤b.length
 | .inr (x,s)=>P x∧f ⟨b,0⟩=some (x,⟨s,0⟩))
theorem Mdx.seq {α β:Type} {P:α→Prop} {Q:β→Prop} {f:Mdr→Option (α × Mdr)} {p:Pr α} {g:α→Mdr→Option (β × Mdr)} {q:α→Pr β} (h:Mdx P f p) (he:Err p) (hs:Shr p) (k:∀ x,P x→Mdx Q (g x) (q x)):Mdx Q (fun r=>(f r).bind fun y=>g y.1 y.2) (pSeq p q):=by
 intro b e hb
 obtain ⟨h1,h2⟩:=h b e hb
 refine ⟨fun hee=>?_, ?_⟩
 ·obtain ⟨x,px,hx⟩:=h1 hee
  simp only [hx,Option.bind_some]
  exact (k x px b e hb).1 hee
 ·unfold pSeq
  cases hp:p b with
  | inl er =>
   rw [hp] at h2
   obtain ⟨x,s,px,hx,hl⟩:=h2
   have hne:er≠0:=by rcases he _ _ hp with rfl | rfl <;> omega
   obtain ⟨y,py,hy⟩:=(k x px s er (by omega)).1 hne
   refine ⟨y,s,py, ?_,hl⟩
   simp only [hx,Option.bind_some]
   exact hy
  | inr y =>
   obtain ⟨x,s⟩:=y
   rw [hp] at h2
   obtain ⟨px,h2⟩:=h2
   have hl:=hs _ _ _ hp
   have h3:=(k x px s 0 (by omega)).2
   simp only [h2,Option.bind_some]
   cases hq:q x s with
   | inl er =>
    rw [hq] at h3
    obtain ⟨z,t,pz,hz,ht⟩:=h3
    exact ⟨z,t,pz,hz,by omega⟩
   | inr z =>
    rw [hq] at h3
    exact h3
theorem Mdx.ret {α:Type} (x:α):Mdx (fun _=>True) (fun r=>some (x,r)) (fun b=>.inr (x,b)):=fun b e _=>⟨fun _=>⟨x,trivial,rfl⟩,trivial,rfl⟩
theorem mnums_err (n:Nat) (hn:n < 1000000) (b:List UInt8) {e:Int} (he:e≠0):msg_reader_numbers (n:Int) ⟨b,e⟩=some (List.replicate n 0,⟨b,e⟩):=by
 unfold msg_reader_numbers
 rw [gd_true (makeB8 n hn),Int.toNat_natCast]
 simp only
 rw [beq_f he]
 rfl
theorem mnums_ok (n:Nat) (hn:n < 1000000) (b:List UInt8) (hb:b.length < 500000000):msg_reader_numbers (n:Int) ⟨b,0⟩=some (match pRep pNum n b with
  | .inl e=>(List.replicate n 0,⟨[],e⟩)
  | .inr (l,r)=>(l,⟨r,0⟩)):=by
 unfold msg_reader_numbers
 rw [gd_true (makeB8 n hn),Int.toNat_natCast]
 simp only
 rw [beq_t rfl,cond_true,takes_plain b n (by omega) hn,Option.bind_some]
 cases hp:pRep pNum n b with
 | inl e =>
  have he:e≠0:=by rcases rep_err num_err n _ _ hp with rfl | rfl <;> omega
  simp only
  rw [beq_f he]
  rfl
 | inr y =>
  obtain ⟨l,r⟩:=y
  simp only
  rw [beq_t rfl]
  rfl
theorem nums_md (n:Nat) (hn:n < 1000000):Mdx (fun l:List Int=>l.length=n) (msg_reader_numbers (n:Int)) (pRep pNum n):=by
 intro b e hb
 refine ⟨fun he=>⟨_,by simp,mnums_err n hn b he⟩, ?_⟩
 rw [mnums_ok n hn b hb]
 cases hp:pRep pNum n b with
 | inl e=>exact ⟨List.replicate n 0,[],by simp,rfl,by simp⟩
 | inr y =>
  obtain ⟨l,r⟩:=y
  exact ⟨rep_len hp,rfl⟩
theorem rep_one (b:List UInt8):pRep pNum 1 b=match pNum b with
  | .inl e=>.inl e
  | .inr (x,r)=>.inr ([x],r):=by
 simp only [pRep,pSeq]
 cases pNum b <;> rfl
theorem upto_md (m:Int) (hm:0≤m):Mdx (fun n:Int=>0≤n∧n≤m) (msg_reader_upTo m) (pCnt m):=by
 intro b e hb
 unfold msg_reader_upTo
 rw [show (1:Int)=((1:Nat):Int) from rfl]
 refine ⟨fun he=>⟨0,⟨Int.le_refl _,hm⟩, ?_⟩, ?_⟩
 ·rw [mnums_err 1 (by omega) b he,Option.bind_some]
  show cond (decide ((0:Int) > m)) _ _=_
  rw [dec_f (by omega)]
  rfl
 ·rw [mnums_ok 1 (by omega) b hb,Option.bind_some,rep_one]
  unfold pCnt pSeq
  cases hp:pNum b with
  | inl er =>
   simp only
   refine ⟨0,[],⟨Int.le_refl _,hm⟩, ?_,by simp⟩
   show cond (decide ((0:Int) > m)) _ _=_
   rw [dec_f (by omega)]
   rfl
  | inr y =>
   obtain ⟨x,r⟩:=y
   have hx:=num_ok hp
   have hr:=num_shr _ _ _ hp
   simp only
   by_cases c:x≤m
   ·rw [if_pos c]
    refine ⟨⟨hx.1,c⟩, ?_⟩
    show cond (decide (x > m)) _ _=_
    rw [dec_f (by omega)]
    rfl
   ·rw [if_neg c]
    refine ⟨0,r,⟨Int.le_refl _,hm⟩, ?_,hr⟩
    show cond (decide (x > m)) _ _=_
    rw [dec_t (by omega)]
    rfl
theorem mseq_assoc {α β γ:Type} (p:Pr α) (q:α→Pr β) (r:β→Pr γ):pSeq (pSeq p q) r=pSeq p fun x=>pSeq (q x) r:=by
 funext b
 unfold pSeq
 cases p b <;> rfl
theorem mseq_ret {α β:Type} (x:α) (r:α→Pr β):pSeq (fun b=>.inr (x,b)) r=r x:=rfl
def mkE (n:List Int) (k:Int):api_Entry:=⟨n.getD 0 0,n.getD 1 0,n.getD 2 0,n.getD 3 0,k == 1⟩
theorem ent_is:pEnt=pSeq (pRep pNum 4) fun n=>pSeq (pCnt 1) fun k b=>.inr (mkE n k,b):=by
 unfold pEnt pBit
 simp only [mseq_assoc,mseq_ret]
 rfl
def entG (l:List Int) (r:Mdr):Option (api_Entry × Mdr):=(msg_reader_upTo 1 r).bind fun (x2:Int × msg_reader)=>(getI l 0).bind fun (x3:Int)=>(getI l 1).bind fun (x4:Int)=>(getI l 2).bind fun (x5:Int)=>(getI l 3).bind fun (x6:Int)=>some ((⟨x3,x4,x5,x6,(x2.1 == 1)⟩:api_Entry),x2.2)
theorem ent_md:Mdx (fun _=>True) msg_reader_entry pEnt:=by
 have e:msg_reader_entry=fun r=>(msg_reader_numbers ((4:Nat):Int) r).bind fun y=>entG y.1 y.2:=rfl
 rw [e,ent_is]
 refine Mdx.seq (nums_md 4 (by omega)) (rep_err num_err 4) (rep_shr num_shr 4) fun l hl=>?_
 have g:entG l=fun r=>(msg_reader_upTo 1 r).bind fun y=>some (mkE l y.1,y.2):=by
  funext r
  unfold entG
  have n0:=getI_3 (0:Int) hl 0 (by omega)
  have n1:=getI_3 (0:Int) hl 1 (by omega)
  have n2:=getI_3 (0:Int) hl 2 (by omega)
  have n3:=getI_3 (0:Int) hl 3 (by omega)
  rw [show ((0:Nat):Int)=0 from rfl] at n0
  rw [show ((1:Nat):Int)=1 from rfl] at n1
  rw [show ((2:Nat):Int)=2 from rfl] at n2
  rw [show ((3:Nat):Int)=3 from rfl] at n3
  simp only [n0,n1,n2,n3,Option.bind_some]
  rfl
 rw [g]
 exact Mdx.seq (g:=fun k r=>some (mkE l k,r)) (q:=fun k b=>.inr (mkE l k,b)) (upto_md 1 (by omega)) (cnt_err 1) (cnt_shr 1) fun k _=>Mdx.ret _
theorem bit_err:Err pBit:=seq_err (cnt_err 1) fun x b e h=>by cases h
theorem bit_shr:Shr pBit:=seq_shr (cnt_shr 1) fun x b y r h=>by
 simp only [Sum.inr.injEq,Prod.mk.injEq] at h
 rw [h.2]
 exact Nat.le_refl _
theorem ent_err:Err pEnt:=seq_err (rep_err num_err 4) fun x=>seq_err bit_err fun y b e h=>by cases h
theorem ent_shr:Shr pEnt:=seq_shr (rep_shr num_shr 4) fun x=>seq_shr bit_shr fun z b y r h=>by
 simp only [Sum.inr.injEq,Prod.mk.injEq] at h
 rw [h.2]
 exact Nat.le_refl _
def reqR (r:Mdr):Option (api_Req × Mdr):=cond (r.e == 0) ((codec_ReadReq r.b).bind fun x=>some (x.1,⟨x.2.1,x.2.2⟩)) (some (zeroQ,r))
def ansR (r:Mdr):Option (api_Answer × Mdr):=cond (r.e == 0) ((codec_ReadAnswer r.b).bind fun x=>some (x.1,⟨x.2.1,x.2.2⟩)) (some (zeroA,r))
theorem reqR_md:Mdx (fun _=>True) reqR pReq:=by
 intro b e hb
 unfold reqR
 refine ⟨fun he=>⟨zeroQ,trivial,by simp only; rw [beq_f he]; rfl⟩, ?_⟩
 simp only
 rw [beq_t rfl,cond_true,readReq_plain b (by omega),Option.bind_some]
 cases hp:pReq b with
 | inl e=>exact ⟨zeroQ,[],trivial,rfl,by simp⟩
 | inr y=>exact ⟨trivial,rfl⟩
theorem ansR_md:Mdx (fun _=>True) ansR pAns:=by
 intro b e hb
 unfold ansR
 refine ⟨fun he=>⟨zeroA,trivial,by simp only; rw [beq_f he]; rfl⟩, ?_⟩
 simp only
 rw [beq_t rfl,cond_true,readAns_plain b (by omega),Option.bind_some]
 cases hp:pAns b with
 | inl e=>exact ⟨zeroA,[],trivial,rfl,by simp⟩
 | inr y=>exact ⟨trivial,rfl⟩
def tabS (k:Int) (s22:Int × msg_reader × List api_Entry):Option ((Int × msg_reader × List api_Entry) ⊕ ((msg_reader × List api_Entry))) :=
 cond (decide (s22.1 < k)) ((msg_reader_entry s22.2.1).bind fun (x23:api_Entry × msg_reader)=>gd (fitsB 40 (s22.2.2 ++ [x23.1]).length) (some (.inl ((IntKind.i64.wrap (s22.1+1)),x23.2,(s22.2.2 ++ [x23.1]))))) (some (.inr (s22.2.1,s22.2.2)))
def tabR (k:Int) (r:Mdr):Option (List api_Entry × Mdr):=(loopX (tabS k) KK (0,r,[])).bind fun z=>some (z.2,z.1)
theorem tab_md_ (n:Nat) (hn:n≤5):∀ (j k:Nat) (acc:List api_Entry),j≤n→acc.length=n - j→j < k →
  Mdx (fun _=>True) (fun r=>(loopX (tabS (n:Int)) k (((n - j:Nat):Int),r,acc)).bind fun z=>some (z.2,z.1)) (pSeq (pRep pEnt j) fun l b=>.inr (acc ++ l,b))
 | 0,k,acc,_,ha,hk=>by
  obtain ⟨k,rfl⟩:∃ i,k=i+1:=⟨k - 1,by omega⟩
  have e:∀ r,tabS (n:Int) (((n - 0:Nat):Int),r,acc)=some (.inr (r,acc)):=fun r=>by
   unfold tabS
   simp only
   rw [dec_f (by omega),cond_false]
  have e2:(fun r:Mdr=>(loopX (tabS (n:Int)) (k+1) (((n - 0:Nat):Int),r,acc)).bind fun z=>some (z.2,z.1))=fun r=>some (acc,r):=by
   funext r
   simp only [loopX,e,Option.bind_some]
  have e3:(pSeq (pRep pEnt 0) fun l b=>(.inr (acc ++ l,b):Int ⊕ (List api_Entry × List UInt8)))=fun b=>.inr (acc,b):=by
   funext b
   simp only [pRep,pSeq,List.append_nil]
  rw [e2,e3]
  exact Mdx.ret acc
 | j+1,k,acc,hj,ha,hk=>by
  obtain ⟨k,rfl⟩:∃ i,k=i+1:=⟨k - 1,by omega⟩
  have e2:(fun r:Mdr=>(loopX (tabS (n:Int)) (k+1) (((n - (j+1):Nat):Int),r,acc)).bind fun z=>some (z.2,z.1))=fun r=>(msg_reader_entry r).bind fun y=>(loopX (tabS (n:Int)) k (((n - j:Nat):Int),y.2,acc ++ [y.1])).bind fun z=>some (z.2,z.1):=by
   funext r
   have e:tabS (n:Int) (((n - (j+1):Nat):Int),r,acc)=(msg_reader_entry r).bind fun x23=>some (.inl (((n - j:Nat):Int),x23.2,acc ++ [x23.1])):=by
    unfold tabS
    simp only
    rw [dec_t (by omega),cond_true,wrap_id (by omega) (by omega),show ((n - (j+1):Nat):Int)+1=((n - j:Nat):Int) by omega]
    congr 1
    funext x23
    rw [gd_true (by unfold fitsB; simp; omega)]
   simp only [loopX,e]
   cases msg_reader_entry r <;> rfl
  have e3:(pSeq (pRep pEnt (j+1)) fun l b=>(.inr (acc ++ l,b):Int ⊕ (List api_Entry × List UInt8)))=pSeq pEnt fun x=>pSeq (pRep pEnt j) fun l b=>.inr (acc ++ [x] ++ l,b):=by
   simp only [pRep,mseq_assoc,mseq_ret,List.append_assoc,List.singleton_append]
  rw [e2,e3]
  exact Mdx.seq (g:=fun x r=>(loopX (tabS (n:Int)) k (((n - j:Nat):Int),r,acc ++ [x])).bind fun z=>some (z.2,z.1)) ent_md ent_err ent_shr fun x _=>tab_md_ n hn j k (acc ++ [x]) (by omega) (by simp; omega) (by omega)
theorem tab_md (n:Nat) (hn:n≤5):Mdx (fun _=>True) (tabR (n:Int)) (pRep pEnt n):=by
 have h:=tab_md_ n hn n KK [] (Nat.le_refl _) (by simp) (by have:=KK_big; omega)
 rw [Nat.sub_self] at h
 have e:(pSeq (pRep pEnt n) fun l b=>(.inr ([] ++ l,b):Int ⊕ (List api_Entry × List UInt8)))=pRep pEnt n:=by
  funext b
  unfold pSeq
  cases pRep pEnt n b <;> rfl
 rw [e] at h
 exact h
def m8 (n:List Int) (d:Bool) (q:api_Req) (a:api_Answer) (p:List Int) (t:List api_Entry) (r:Mdr):Option (api_Msg × Mdr) :=
 cond (r.e == 0) ((codec_ReadImage r.b).bind fun x26=>some (mkM n d q a p t x26.1,⟨x26.2.1,x26.2.2⟩)) (some (mkM n d q a p t zeroM,r))
def m7 (n:List Int) (d:Bool) (q:api_Req) (a:api_Answer) (p:List Int) (k:Int) (r:Mdr):=(tabR k r).bind fun y=>m8 n d q a p y.1 y.2
def m6 (n:List Int) (d:Bool) (q:api_Req) (a:api_Answer) (p:List Int) (r:Mdr):=(msg_reader_upTo 5 r).bind fun y=>m7 n d q a p y.1 y.2
def m5 (n:List Int) (d:Bool) (q:api_Req) (a:api_Answer) (c:Int) (r:Mdr):=(msg_reader_numbers c r).bind fun y=>m6 n d q a y.1 y.2
def m4 (n:List Int) (d:Bool) (q:api_Req) (a:api_Answer) (r:Mdr):=(msg_reader_upTo 5 r).bind fun y=>m5 n d q a y.1 y.2
def m3 (n:List Int) (d:Bool) (q:api_Req) (r:Mdr):=(ansR r).bind fun y=>m4 n d q y.1 y.2
def m2 (n:List Int) (d:Bool) (r:Mdr):=(reqR r).bind fun y=>m3 n d y.1 y.2
def m1 (n:List Int) (r:Mdr):=(msg_reader_upTo 1 r).bind fun y=>m2 n (y.1 == 1) y.2
theorem m8_md (n:List Int) (d:Bool) (q:api_Req) (a:api_Answer) (p:List Int) (t:List api_Entry):Mdx (fun _=>True) (m8 n d q a p t) (pSeq pImg fun x b=>.inr (mkM n d q a p t x,b)):=by
 intro b e hb
 unfold m8
 refine ⟨fun he=>⟨_,trivial,by simp only; rw [beq_f he]; rfl⟩, ?_⟩
 simp only
 rw [beq_t rfl,cond_true,readImage_plain b (by omega),Option.bind_some]
 unfold pSeq
 cases hp:pImg b with
 | inl e=>exact ⟨_,[],trivial,rfl,by simp⟩
 | inr y=>exact ⟨trivial,rfl⟩
theorem m1_md (n:List Int):Mdx (fun _=>True) (m1 n) (pSeq (pCnt 1) fun k=>pSeq pReq fun q=>pSeq pAns fun a=>pSeq (pCnt 5) fun c=>pSeq (pRep pNum c.toNat) fun p=>pSeq (pCnt 5) fun k2=>pSeq (pRep pEnt k2.toNat) fun t=>pSeq pImg fun x b=>.inr (mkM n (k == 1) q a p t x,b)):=by
 refine Mdx.seq (g:=fun k r=>m2 n (k == 1) r) (upto_md 1 (by omega)) (cnt_err 1) (cnt_shr 1) fun k _=>?_
 refine Mdx.seq (g:=fun q r=>m3 n (k == 1) q r) reqR_md req_err req_shr fun q _=>?_
 refine Mdx.seq (g:=fun a r=>m4 n (k == 1) q a r) ansR_md ans_err ans_shr fun a _=>?_
 refine Mdx.seq (g:=fun c r=>m5 n (k == 1) q a c r) (upto_md 5 (by omega)) (cnt_err 5) (cnt_shr 5) fun c hc=>?_
 have h1:=nums_md c.toNat (by omega)
 rw [Int.toNat_of_nonneg hc.1] at h1
 refine Mdx.seq (g:=fun p r=>m6 n (k == 1) q a p r) h1 (rep_err num_err _) (rep_shr num_shr _) fun p _=>?_
 refine Mdx.seq (g:=fun c r=>m7 n (k == 1) q a p c r) (upto_md 5 (by omega)) (cnt_err 5) (cnt_shr 5) fun k2 hk=>?_
 have h2:=tab_md k2.toNat (by omega)
 rw [Int.toNat_of_nonneg hk.1] at h2
 exact Mdx.seq (g:=fun t r=>m8 n (k == 1) q a p t r) h2 (rep_err ent_err _) (rep_shr ent_shr _) fun t _=>m8_md _ _ _ _ _ _
def m0 (l:List Int) (r:Mdr):Option (api_Msg × Mdr):=(getI l 0).bind fun (x2:Int)=>(getI l 1).bind fun (x3:Int)=>(getI l 2).bind fun (x4:Int)=>(getI l 3).bind fun (x5:Int)=>(getI l 4).bind fun (x6:Int)=>(getI l 5).bind fun (x7:Int)=>(getI l 6).bind fun (x8:Int)=>(getI l 7).bind fun (x9:Int)=>(msg_reader_upTo 1 r).bind fun (x10:Int × msg_reader)=>(msg_reader_message_J0 x10 x2 x3 x4 x5 x6 x7 x8 x9).bind fun (x12:(msg_reader × Int × Int × Int × List UInt8 × List UInt8 × List UInt8))=>(msg_reader_message_J1 x12 x2 x3 x4 x5 x6 x7 x8 x9 x10).bind fun (x14:(msg_reader × Int × List UInt8))=>(msg_reader_upTo 5 x14.1).bind fun (x15:Int × msg_reader)=>(msg_reader_numbers x15.1 x15.2).bind fun (x16:List Int × msg_reader)=>(msg_reader_upTo 5 x16.2).bind fun (x17:Int × msg_reader)=>(msg_reader_message_L2 x17 x2 x3 x4 x5 x6 x7 x8 x9 x10 x12 x14 x16 (0,x17.2,[])).bind fun (x25:(msg_reader × List api_Entry))=>cond (x25.1.e == 0) ((codec_ReadImage x25.1.b).bind fun (x26:api_Image × List UInt8 × Int)=>some ((⟨x2,x3,x4,x5,x6,x7,x8,x9,(x10.1 == 1),(⟨x12.2.1,x12.2.2.1,(⟨x12.2.2.2.1,x12.2.2.2.2.1,x12.2.2.2.2.2.1,x12.2.2.2.2.2.2⟩:api_Op)⟩:api_Req),(⟨x14.2.1,x14.2.2⟩:api_Answer),x16.1,x25.2,x26.1⟩:api_Msg),(⟨x26.2.1,x26.2.2⟩:msg_reader))) (some ((⟨x2,x3,x4,x5,x6,x7,x8,x9,(x10.1 == 1),(⟨x12.2.1,x12.2.2.1,(⟨x12.2.2.2.1,x12.2.2.2.2.1,x12.2.2.2.2.2.1,x12.2.2.2.2.2.2⟩:api_Op)⟩:api_Req),(⟨x14.2.1,x14.2.2⟩:api_Answer),x16.1,x25.2,(⟨0,0,[],[]⟩:api_Image)⟩:api_Msg),x25.1))
theorem j0_msg (x10:Int × msg_reader) (x2 x3 x4 x5 x6 x7 x8 x9:Int):msg_reader_message_J0 x10 x2 x3 x4 x5 x6 x7 x8 x9=(reqR x10.2).bind fun y=>some (y.2,y.1.Client,y.1.Seq,y.1.Op.Kind,y.1.Op.Key,y.1.Op.Value,y.1.Op.Old):=by
 unfold msg_reader_message_J0 reqR
 cases (x10.2.e == 0)
 ·rfl
 ·simp only [cond_true]
  cases codec_ReadReq x10.2.b <;> rfl
theorem j1_msg (x12:(msg_reader × Int × Int × Int × List UInt8 × List UInt8 × List UInt8)) (x2 x3 x4 x5 x6 x7 x8 x9:Int) (x10:Int × msg_reader):msg_reader_message_J1 x12 x2 x3 x4 x5 x6 x7 x8 x9 x10=(ansR x12.1).bind fun y=>some (y.2,y.1.Why,y.1.Value):=by
 unfold msg_reader_message_J1 ansR
 cases (x12.1.e == 0)
 ·rfl
 ·simp only [cond_true]
  cases codec_ReadAnswer x12.1.b <;> rfl
theorem l2_msg (x17:Int × msg_reader) (x2 x3 x4 x5 x6 x7 x8 x9:Int) (x10:Int × msg_reader) (x12:(msg_reader × Int × Int × Int × List UInt8 × List UInt8 × List UInt8)) (x14:(msg_reader × Int × List UInt8)) (x16:List Int × msg_reader):msg_reader_message_L2 x17 x2 x3 x4 x5 x6 x7 x8 x9 x10 x12 x14 x16 (0,x17.2,[])=(tabR x17.1 x17.2).bind fun z=>some (z.2,z.1):=by
 unfold tabR
 show loopX (tabS x17.1) KK (0,x17.2,[])=_
 cases loopX (tabS x17.1) KK (0,x17.2,[]) <;> rfl
theorem msg_md:Mdx (fun _=>True) msg_reader_message pMsg:=by
 have e:msg_reader_message=fun r=>(msg_reader_numbers ((8:Nat):Int) r).bind fun y=>m0 y.1 y.2:=rfl
 have e2:pMsg=pSeq (pRep pNum 8) fun n=>pSeq (pCnt 1) fun k=>pSeq pReq fun q=>pSeq pAns fun a=>pSeq (pCnt 5) fun c=>pSeq (pRep pNum c.toNat) fun p=>pSeq (pCnt 5) fun k2=>pSeq (pRep pEnt k2.toNat) fun t=>pSeq pImg fun x b=>.inr (mkM n (k == 1) q a p t x,b):=by
  unfold pMsg pBit
  simp only [mseq_assoc,mseq_ret]
 rw [e,e2]
 refine Mdx.seq (nums_md 8 (by omega)) (rep_err num_err 8) (rep_shr num_shr 8) fun l hl=>?_
 have g:m0 l=m1 l:=by
  funext r
  unfold m0
  have n0:=getI_3 (0:Int) hl 0 (by omega)
  have n1:=getI_3 (0:Int) hl 1 (by omega)
  have n2:=getI_3 (0:Int) hl 2 (by omega)
  have n3:=getI_3 (0:Int) hl 3 (by omega)
  have n4:=getI_3 (0:Int) hl 4 (by omega)
  have n5:=getI_3 (0:Int) hl 5 (by omega)
  have n6:=getI_3 (0:Int) hl 6 (by omega)
  have n7:=getI_3 (0:Int) hl 7 (by omega)
  rw [show ((0:Nat):Int)=0 from rfl] at n0
  rw [show ((1:Nat):Int)=1 from rfl] at n1
  rw [show ((2:Nat):Int)=2 from rfl] at n2
  rw [show ((3:Nat):Int)=3 from rfl] at n3
  rw [show ((4:Nat):Int)=4 from rfl] at n4
  rw [show ((5:Nat):Int)=5 from rfl] at n5
  rw [show ((6:Nat):Int)=6 from rfl] at n6
  rw [show ((7:Nat):Int)=7 from rfl] at n7
  simp only [n0,n1,n2,n3,n4,n5,n6,n7,Option.bind_some,j0_msg,j1_msg,l2_msg,Option.bind_assoc]
  rfl
 rw [g]
 exact m1_md l
def zeroG:api_Msg:=⟨0,0,0,0,0,0,0,0,false,zeroQ,zeroA,[],[],zeroM⟩
def readM (b:List UInt8):api_Msg × Int:=match pMsg b with
 | .inl e=>(zeroG,e)
 | .inr (r,s)=>if s.length=0∧rightM r=true then (r,0) else (zeroG,2)
theorem msg_err:Err pMsg:=by
 unfold pMsg
 exact seq_err (rep_err num_err 8) fun n=>seq_err bit_err fun d=>seq_err req_err fun q=>seq_err ans_err fun a=>seq_err (cnt_err 5) fun c=>seq_err (rep_err num_err _) fun p=>seq_err (cnt_err 5) fun k=>seq_err (rep_err ent_err _) fun t=>seq_err img_err fun x b e h=>by cases h
theorem seq_in {α β:Type} {P:β→Prop} {C:α→Prop} {p:Pr α} {q:α→Pr β} (hp:∀ b x r,p b=.inr (x,r)→C x) (hq:∀ x,C x→∀ b y r,q x b=.inr (y,r)→P y):∀ b y r,pSeq p q b=.inr (y,r)→P y:=by
 intro b y r h
 unfold pSeq at h
 split at h
 ·cases h
 ·rename_i x c hx
  exact hq _ (hp _ _ _ hx) _ _ _ h
theorem msg_post:∀ b x r,pMsg b=.inr (x,r)→smallM x:=by
 unfold pMsg
 refine seq_post fun n=>seq_post fun d=>seq_post fun q=>seq_post fun a=>?_
 refine seq_in (C:=fun c=>0≤c∧c≤5) (fun b x r h=>cnt_ok h) fun c hc=>?_
 refine seq_in (C:=fun p:List Int=>p.length=c.toNat) (fun b x r h=>rep_len h) fun p hp=>?_
 refine seq_in (C:=fun c=>0≤c∧c≤5) (fun b x r h=>cnt_ok h) fun k hk=>?_
 refine seq_in (C:=fun p:List api_Entry=>p.length=k.toNat) (fun b x r h=>rep_len h) fun t ht=>?_
 refine seq_in (C:=fun x=>rightJ x=true) img_ok fun x hx b y r h=>?_
 simp only [Sum.inr.injEq,Prod.mk.injEq] at h
 rw [← h.1]
 have:=rightJ_small hx
 exact ⟨show p.length < _ by omega,show t.length < _ by omega,show x.Pairs.length < _ by omega,show x.Sess.length < _ by omega⟩
theorem read_msg (b:List UInt8) (hb:b.length < 500000000):msg_Read b=some (readM b):=by
 unfold msg_Read readM
 have h:=(msg_md b 0 hb).2
 cases hp:pMsg b with
 | inl er =>
  have he:er≠0:=by rcases msg_err _ _ hp with rfl | rfl <;> omega
  rw [hp] at h
  obtain ⟨x,s,_,h,_⟩:=h
  rw [h,Option.bind_some]
  unfold msg_Read_J1 msg_Read_J0
  simp only
  rw [beq_f he]
  simp only [cond_false,Option.bind_some]
  rw [bne_t he]
  rfl
 | inr y =>
  obtain ⟨x,s⟩:=y
  rw [hp] at h
  simp only at h
  rw [h.2,Option.bind_some]
  unfold msg_Read_J1 msg_Read_J0
  simp only
  rw [beq_t rfl,right_msg x (msg_post _ _ _ hp)]
  simp only [cond_true,Option.bind_some]
  by_cases c:s.length=0
  ·rw [dec_f (by omega),cond_false]
   cases hc:rightM x
   ·rw [if_neg (by simp)]; rfl
   ·rw [if_pos ⟨c,rfl⟩]; rfl
  ·rw [dec_t (by omega),if_neg (by rintro ⟨p,_⟩; exact c p)]
   rfl
theorem readM_laid {r:api_Msg} (h:rightM r=true):readM (eMsg r)=(r,0):=by
 have:=(msg_lays h).1 []
 rw [List.append_nil] at this
 unfold readM
 rw [this]
 simp only
 rw [if_pos ⟨rfl,h⟩]
theorem readM_cut {r:api_Msg} (h:rightM r=true) (k:Nat) (hk:k < (eMsg r).length):readM ((eMsg r).take k)=(zeroG,3):=by
 unfold readM
 rw [(msg_lays h).2 k hk]
theorem readM_more {r:api_Msg} (h:rightM r=true) (x:UInt8) (l:List UInt8):readM (eMsg r ++ x :: l)=(zeroG,2):=by
 unfold readM
 rw [(msg_lays h).1 (x :: l)]
 simp only
 rw [if_neg (by rintro ⟨p,_⟩; simp at p)]
end Go.Proofs.YtgahmammhclobaaGreat
