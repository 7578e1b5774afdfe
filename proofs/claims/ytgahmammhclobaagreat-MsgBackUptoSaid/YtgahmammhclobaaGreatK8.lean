import Derived.Test.YtgahmammhclobaaGreatK5
import Derived.Test.YtgahmammhclobaaGreatY5
set_option linter.all false
set_option linter.unusedSimpArgs false
namespace Go.Proofs.YtgahmammhclobaaGreat
theorem img_eqv (x y:api_Image):(x.Shard=y.Shard∧x.Epoch=y.Epoch∧x.Pairs=y.Pairs∧x.Sess=y.Sess)↔x=y:=by
 obtain ⟨a,b,c,d⟩:=x; obtain ⟨a',b',c',d'⟩:=y
 simp
instance:DecidableEq api_Image:=fun x y=>decidable_of_iff _ (img_eqv x y)
theorem rec_eqv (x y:api_Rec):(x.Kind=y.Kind∧x.Shard=y.Shard∧x.Epoch=y.Epoch∧x.Host=y.Host∧x.N=y.N∧x.Req=y.Req∧x.Image=y.Image)↔x=y:=by
 obtain ⟨a,b,c,d,e,f,g⟩:=x; obtain ⟨a',b',c',d',e',f',g'⟩:=y
 simp
instance:DecidableEq api_Rec:=fun x y=>decidable_of_iff _ (rec_eqv x y)
def zeroR:api_Rec:=⟨0,0,0,0,0,zeroQ,zeroM⟩
def headR (r:api_Rec):List Int:=[r.Kind,r.Shard,r.Epoch,r.Host,r.N]
def small (x:api_Image):Prop:=x.Pairs.length < 1000000∧x.Sess.length < 1000000
theorem seq_post {α β:Type} {P:β→Prop} {p:Pr α} {q:α→Pr β} (hq:∀ x b y r,q x b=.inr (y,r)→P y):∀ b y r,pSeq p q b=.inr (y,r)→P y:=by
 intro b y r h
 unfold pSeq at h
 split at h
 ·cases h
 ·exact hq _ _ _ _ h
theorem chk_post {α:Type} (c:α→Bool) (x:α):∀ b y r,pChk c x b=.inr (y,r)→c y=true:=by
 intro b y r h
 unfold pChk at h
 split at h
 ·rename_i hc
  simp only [Sum.inr.injEq,Prod.mk.injEq] at h
  rw [← h.1]
  exact hc
 ·cases h
theorem img_ok:∀ b x r,pImg b=.inr (x,r)→rightJ x=true :=
 seq_post fun _=>seq_post fun _=>seq_post fun _=>seq_post fun _=>seq_post fun _=>chk_post _ _
theorem outside_plain (n:Int):rec_Right_1 n=some (!decide (okN n)):=by
 unfold rec_Right_1
 by_cases c:n < 0
 ·rw [dec_t c,dec_f (show ¬ okN n by unfold okN; omega)]; rfl
 ·rw [dec_f c,cond_false]
  congr 1
  by_cases d:n > 4611686018427387903
  ·rw [dec_t d,dec_f (show ¬ okN n by unfold okN; omega)]; rfl
  ·rw [dec_f d,dec_t (show okN n by unfold okN; omega)]; rfl
theorem outs_plain (l:List Int) (h:l.length < 1000000):slices_ContainsFunc_int_int l=some (l.any fun n=>!decide (okN n)):=by
 obtain ⟨e,e1,e2⟩:=anyloop l (fun n=>!decide (okN n)) h (slices_IndexFunc_int_int_L0_s l) (fun i=>(i:Int)) (fun i hi=>by
  unfold slices_IndexFunc_int_int_L0_s
  rw [dec_t (by omega),cond_true,getI_at hi,Option.bind_some,outside_plain,Option.bind_some,wrap_id (by omega) (by omega),succ_cast]) (by
  unfold slices_IndexFunc_int_int_L0_s
  rw [dec_f (by omega),cond_false])
 unfold slices_ContainsFunc_int_int slices_IndexFunc_int_int slices_IndexFunc_int_int_L0
 rw [e1,Option.bind_some]
 rcases e2 with ⟨q,i,rfl⟩ | ⟨q,rfl⟩
 ·rw [q]
  simp only [isL,getL,cond_true,Option.bind_some]
  rw [dec_t (by omega)]
 ·rw [q]; rfl
theorem equalI (a b:List Int) (h:a.length < 1000000):slices_Equal_int_int a b=some (decide (a=b)):=by
 unfold slices_Equal_int_int
 by_cases c:a.length=b.length
 ·rw [bne_f (by omega),cond_false]
  obtain ⟨e,e1,e2⟩:=eqloop a b (fun x y=>x == y) (fun x y=>by simp) h c (slices_Equal_int_int_L0_s a b) (fun _=>rfl)
  unfold slices_Equal_int_int_L0
  rw [e1,Option.bind_some,e2]
  by_cases q:a=b <;> simp [q]
 ·rw [bne_t (by omega),dec_f (fun e=>c (by rw [e]))]; rfl
theorem img_dec (a b:api_Image):decide (a=b)=(decide (a.Shard=b.Shard) && (decide (a.Epoch=b.Epoch) && (decide (a.Pairs=b.Pairs) && decide (a.Sess=b.Sess)))):=by
 rw [Bool.eq_iff_iff]
 simp [← img_eqv]
theorem rec_dec (a b:api_Rec):decide (a=b)=(decide (a.Kind=b.Kind) && (decide (a.Shard=b.Shard) && (decide (a.Epoch=b.Epoch) && (decide (a.Host=b.Host) && (decide (a.N=b.N) && (decide (a.Req=b.Req) && decide (a.Image=b.Image))))))):=by
 rw [Bool.eq_iff_iff]
 simp [← rec_eqv]
theorem same_plain (a b:api_Image) (h:small a):rec_same a b=some (decide (a=b)):=by
 unfold rec_same
 have e1:=equalP a.Pairs b.Pairs h.1
 have e2:=equalS a.Sess b.Sess h.2
 rw [img_dec]
 simp only [lbeq_eq (α:=Int),e1,e2,Option.bind_some]
 generalize decide (a.Shard=b.Shard)=x1
 generalize decide (a.Epoch=b.Epoch)=x2
 generalize decide (a.Pairs=b.Pairs)=x3
 generalize decide (a.Sess=b.Sess)=x4
 cases x1 <;> cases x2 <;> cases x3 <;> rfl
theorem Same_plain (a b:api_Rec) (h:small a.Image):rec_Same a b=some (decide (a=b)):=by
 unfold rec_Same rec_head
 have e1:=equalI [a.Kind,a.Shard,a.Epoch,a.Host,a.N] [b.Kind,b.Shard,b.Epoch,b.Host,b.N] (by simp)
 have e2:=same_plain a.Image b.Image h
 have e3:decide ([a.Kind,a.Shard,a.Epoch,a.Host,a.N]=[b.Kind,b.Shard,b.Epoch,b.Host,b.N])=(decide (a.Kind=b.Kind) && (decide (a.Shard=b.Shard) && (decide (a.Epoch=b.Epoch) && (decide (a.Host=b.Host) && decide (a.N=b.N))))):=by
  rw [Bool.eq_iff_iff]
  simp
 rw [rec_dec]
 simp only [Option.bind_some,e1,e2,req_beq,e3]
 generalize decide (a.Kind=b.Kind)=x1
 generalize decide (a.Shard=b.Shard)=x2
 generalize decide (a.Epoch=b.Epoch)=x3
 generalize decide (a.Host=b.Host)=x4
 generalize decide (a.N=b.N)=x5
 generalize decide (a.Req=b.Req)=x6
 generalize decide (a.Image=b.Image)=x7
 cases x1 <;> cases x2 <;> cases x3 <;> cases x4 <;> cases x5 <;> cases x6 <;> rfl
def namedR (r:api_Rec):api_Rec :=
 if r.Kind=1∨r.Kind=2 then ⟨r.Kind,0,0,0,r.N,zeroQ,zeroM⟩
 else if r.Kind=3 then ⟨r.Kind,r.Shard,0,0,0,r.Req,zeroM⟩
 else if r.Kind=4∨r.Kind=6 then ⟨r.Kind,r.Shard,r.Epoch,r.Host,0,zeroQ,zeroM⟩
 else if r.Kind=5 then ⟨r.Kind,0,0,0,0,zeroQ,r.Image⟩ else zeroR
theorem named_plain (r:api_Rec):rec_named r=some (namedR r):=by
 unfold rec_named rec_named_J0 rec_named_J1 namedR
 simp only [lbeq_eq (α:=Int)]
 by_cases k1:r.Kind=1
 ·rw [dec_t k1,if_pos (.inl k1)]; rfl
 rw [dec_f k1,cond_false,Option.bind_some]
 by_cases k2:r.Kind=2
 ·rw [dec_t k2,if_pos (.inr k2)]; rfl
 rw [dec_f k2,cond_false,if_neg (by omega)]
 by_cases k3:r.Kind=3
 ·rw [dec_t k3,if_pos k3]; rfl
 rw [dec_f k3,cond_false,if_neg k3]
 by_cases k4:r.Kind=4
 ·rw [dec_t k4,if_pos (.inl k4)]; rfl
 rw [dec_f k4,cond_false,Option.bind_some]
 by_cases k6:r.Kind=6
 ·rw [dec_t k6,if_pos (.inr k6)]; rfl
 rw [dec_f k6,cond_false,if_neg (by omega)]
 by_cases k5:r.Kind=5
 ·rw [dec_t k5,if_pos k5]; rfl
 ·rw [dec_f k5,if_neg k5]; rfl
def RC (r:api_Rec):Prop:=1≤r.Kind∧r.Kind≤6∧(∀ n ∈ headR r,okN n)∧rightQ r.Req=true∧rightJ r.Image=true∧r=namedR r∧(r.Kind=2→r.N≤1)∧(r.Kind=3→r.Req≠zeroQ)∧(r.Kind=5→r.Image≠zeroM)
instance (r:api_Rec):Decidable (RC r):=by unfold RC; infer_instance
def rightC (r:api_Rec):Bool:=decide (RC r)
theorem zero_small:small zeroM:=⟨by simp [zeroM],by simp [zeroM]⟩
theorem right_rec (r:api_Rec) (h:small r.Image):rec_Right r=some (rightC r):=by
 unfold rec_Right rec_Right_J0 rec_head rightC
 by_cases k1:r.Kind < 1
 ·rw [dec_t k1,dec_f (show ¬ RC r by rintro ⟨p,_⟩; omega)]; rfl
 rw [dec_f k1,cond_false]
 by_cases k2:r.Kind > 6
 ·rw [dec_t k2,dec_f (show ¬ RC r by rintro ⟨_,p,_⟩; omega)]; rfl
 rw [dec_f k2,cond_false,Option.bind_some,outs_plain _ (by simp),Option.bind_some]
 cases k3:([r.Kind,r.Shard,r.Epoch,r.Host,r.N].any fun n=>!decide (okN n))
 case true =>
  have:¬ RC r:=by
   rintro ⟨_,_,p,_⟩
   rw [List.any_eq_true] at k3
   obtain ⟨x,x1,x2⟩:=k3
   have:=p x x1
   rw [dec_t this] at x2
   cases x2
  rw [dec_f this]; rfl
 have k3':∀ n ∈ headR r,okN n:=fun n hn=>by
  rw [List.any_eq_false] at k3
  have:=k3 n hn
  simpa using this
 rw [cond_false,rightReq_plain,Option.bind_some]
 cases k4:rightQ r.Req
 case false=>rw [dec_f (show ¬ RC r by rintro ⟨_,_,_,p,_⟩; rw [k4] at p; cases p)]; rfl
 simp only [Bool.not_true,cond_false]
 rw [rightImage_plain _ h.1 h.2,Option.bind_some]
 cases k5:rightJ r.Image
 case false=>rw [dec_f (show ¬ RC r by rintro ⟨_,_,_,_,p,_⟩; rw [k5] at p; cases p)]; rfl
 simp only [Bool.not_true,cond_false]
 rw [named_plain,Option.bind_some,Same_plain _ _ h,Option.bind_some]
 by_cases k6:r=namedR r
 case neg=>rw [dec_f k6,dec_f (show ¬ RC r by rintro ⟨_,_,_,_,_,p,_⟩; exact k6 p)]; rfl
 rw [dec_t k6]
 simp only [Bool.not_true,cond_false,Option.bind_some,isL]
 simp only [lbeq_eq (α:=Int)]
 by_cases q2:r.Kind=2
 ·rw [dec_t q2,cond_true]
  congr 1
  rw [decide_eq_decide]
  exact ⟨fun e=>⟨by omega,by omega,k3',k4,k5,k6,fun _=>e,fun e=>by omega,fun e=>by omega⟩,fun e=>e.2.2.2.2.2.2.1 q2⟩
 rw [dec_f q2,cond_false]
 by_cases q3:r.Kind=3
 ·rw [dec_t q3,cond_true]
  have hz:=req_beq r.Req zeroQ
  simp only [lbeq_eq (α:=Int)] at hz
  have hz':(decide (r.Req.Client=0) && (decide (r.Req.Seq=0) && (decide (r.Req.Op.Kind=0) && (r.Req.Op.Key == ([]:List UInt8) && (r.Req.Op.Value == ([]:List UInt8) && (r.Req.Op.Old == ([]:List UInt8) && true))))))=decide (r.Req=zeroQ):=hz
  rw [hz']
  congr 1
  by_cases q:r.Req=zeroQ
  ·rw [dec_t q,dec_f (show ¬ RC r from fun e=>e.2.2.2.2.2.2.2.1 q3 q)]; rfl
  ·rw [dec_f q,dec_t (show RC r from ⟨by omega,by omega,k3',k4,k5,k6,fun e=>by omega,fun _=>q,fun e=>by omega⟩)]; rfl
 rw [dec_f q3,cond_false]
 by_cases q5:r.Kind=5
 ·rw [dec_t q5,cond_true]
  have:=same_plain r.Image zeroM h
  show (rec_same r.Image zeroM).bind _=_
  rw [this,Option.bind_some]
  congr 1
  by_cases q:r.Image=zeroM
  ·rw [dec_t q,dec_f (show ¬ RC r from fun e=>e.2.2.2.2.2.2.2.2 q5 q)]; rfl
  ·rw [dec_f q,dec_t (show RC r from ⟨by omega,by omega,k3',k4,k5,k6,fun e=>by omega,fun e=>by omega,fun _=>q⟩)]; rfl
 ·rw [dec_f q5,cond_false,dec_t (show RC r from ⟨by omega,by omega,k3',k4,k5,k6,fun e=>by omega,fun e=>by omega,fun e=>by omega⟩)]
def eRec (r:api_Rec):List UInt8:=(headR r).flatMap eN ++ (eReq r.Req ++ eImg r.Image)
def mkR (n:List Int) (q:api_Req) (x:api_Image):api_Rec:=⟨n.getD 0 0,n.getD 1 0,n.getD 2 0,n.getD 3 0,n.getD 4 0,q,x⟩
def pRec:Pr api_Rec:=pSeq (pRep pNum 5) fun n=>pSeq pReq fun q=>pSeq pImg fun x b=>.inr (mkR n q x,b)
theorem rightC_parts {r:api_Rec} (h:rightC r=true):(∀ n ∈ headR r,okN n)∧rightQ r.Req=true∧rightJ r.Image=true:=by
 have:=of_decide_eq_true h
 exact ⟨this.2.2.1,this.2.2.2.1,this.2.2.2.2.1⟩
theorem eRec_len {r:api_Rec} (h:rightC r=true):(eRec r).length≤1000:=by
 obtain ⟨h1,h2,h3⟩:=rightC_parts h
 have a:=flat_bound eN 9 (headR r) fun x hx=>eN_len x (h1 x hx)
 have b:=eReq_len h2
 have c:=(eImg_parts h3).2.2
 have d:(headR r).length=5:=rfl
 rw [d] at a
 unfold eRec
 simp only [List.length_append]
 omega
theorem lay_rec (r:api_Rec) (h:small r.Image):rec_Lay r=some (if rightC r then eRec r else []):=by
 unfold rec_Lay
 rw [right_rec r h,Option.bind_some]
 cases hr:rightC r
 ·rfl
 obtain ⟨h1,h2,h3⟩:=rightC_parts hr
 have hl:=eRec_len hr
 unfold eRec at hl
 simp only [List.length_append] at hl
 simp only [Bool.not_true,cond_false,if_true]
 unfold rec_head
 rw [Option.bind_some,put_plain _ _ (by simp),Option.bind_some,putOf_ok [] (l:=[r.Kind,r.Shard,r.Epoch,r.Host,r.N]) h1]
 show (codec_LayReq ([] ++ (headR r).flatMap eN) r.Req).bind _=_
 rw [List.nil_append,layReq_plain _ _ (by omega),h2,Option.bind_some,if_pos rfl,layImage_plain _ _ (by rw [List.length_append]; omega) h.1 h.2,h3,Option.bind_some,if_pos rfl,List.append_assoc]
 rfl
def readR' (b:List UInt8):api_Rec × Int:=match pRec b with
 | .inl e=>(zeroR,e)
 | .inr (r,s)=>if s.length=0∧rightC r=true then (r,0) else (zeroR,2)
theorem read_rec (b:List UInt8) (hb:b.length < 500000000):rec_Read b=some (readR' b):=by
 unfold rec_Read readR' pRec
 have ht:=takes_plain b 5 (by omega) (by omega)
 rw [show ((5:Nat):Int)=5 from rfl] at ht
 rw [ht,Option.bind_some]
 cases h1:pRep pNum 5 b with
 | inl e =>
  have he:e≠0:=by rcases rep_err num_err 5 _ _ h1 with rfl | rfl <;> omega
  rw [pSeq_l h1]
  simp only
  rw [bne_t he]
  rfl
 | inr y =>
  obtain ⟨n,c⟩:=y
  have hn:=rep_len h1
  have hc:=rep_shr num_shr 5 _ _ _ h1
  rw [pSeq_r h1]
  simp only
  rw [bne_f rfl,cond_false]
  have n0:=getI_3 (0:Int) hn 0 (by omega)
  have n1:=getI_3 (0:Int) hn 1 (by omega)
  have n2:=getI_3 (0:Int) hn 2 (by omega)
  have n3:=getI_3 (0:Int) hn 3 (by omega)
  have n4:=getI_3 (0:Int) hn 4 (by omega)
  rw [show ((0:Nat):Int)=0 from rfl] at n0
  rw [show ((1:Nat):Int)=1 from rfl] at n1
  rw [show ((2:Nat):Int)=2 from rfl] at n2
  rw [show ((3:Nat):Int)=3 from rfl] at n3
  rw [show ((4:Nat):Int)=4 from rfl] at n4
  rw [n0,Option.bind_some,n1,Option.bind_some,n2,Option.bind_some,n3,Option.bind_some,n4,Option.bind_some,readReq_plain c (by omega),Option.bind_some]
  cases h2:pReq c with
  | inl e =>
   have he:e≠0:=by rcases req_err _ _ h2 with rfl | rfl <;> omega
   rw [pSeq_l h2]
   simp only
   rw [bne_t he]
   rfl
  | inr y =>
   obtain ⟨q,d⟩:=y
   have hd:=req_shr _ _ _ h2
   rw [pSeq_r h2]
   simp only
   rw [bne_f rfl,cond_false,readImage_plain d (by omega),Option.bind_some]
   cases h3:pImg d with
   | inl e =>
    have he:e≠0:=by rcases img_err _ _ h3 with rfl | rfl <;> omega
    rw [pSeq_l h3]
    simp only
    rw [bne_t he]
    rfl
   | inr y =>
    obtain ⟨x,s⟩:=y
    rw [pSeq_r h3]
    simp only
    rw [bne_f rfl,cond_false]
    by_cases c1:s.length=0
    case neg=>rw [dec_t (by omega),cond_true,if_neg (by rintro ⟨p,_⟩; exact c1 p)]; rfl
    have hx:small x:=by
     have hj:=img_ok _ _ _ h3
     have:=rightJ_small hj
     exact ⟨by omega,by omega⟩
    show cond _ _ ((rec_Right (mkR n q x)).bind _)=_
    rw [dec_f (by omega),cond_false,right_rec _ hx,Option.bind_some]
    cases rightC (mkR n q x)
    ·rw [if_neg (by simp)]; rfl
    ·rw [if_pos ⟨c1,rfl⟩]; rfl
theorem rsame_plain (a b:api_Rec) (h:small a.Image):oR_SameRec a b=some (decide (a=b)):=by
 unfold oR_SameRec
 have e2:=sameI a.Image b.Image h.1 h.2
 have e3:decide (a.Image.Shard=b.Image.Shard∧a.Image.Epoch=b.Image.Epoch∧a.Image.Pairs=b.Image.Pairs∧a.Image.Sess=b.Image.Sess)=decide (a.Image=b.Image):=by rw [decide_eq_decide,img_eqv]
 rw [rec_dec]
 simp only [Option.bind_some,e2,e3,req_beq]
 simp only [lbeq_eq (α:=Int)]
 generalize decide (a.Kind=b.Kind)=x1
 generalize decide (a.Shard=b.Shard)=x2
 generalize decide (a.Epoch=b.Epoch)=x3
 generalize decide (a.Host=b.Host)=x4
 generalize decide (a.N=b.N)=x5
 generalize decide (a.Req=b.Req)=x6
 generalize decide (a.Image=b.Image)=x7
 cases x1 <;> cases x2 <;> cases x3 <;> cases x4 <;> cases x5 <;> cases x6 <;> rfl
end Go.Proofs.YtgahmammhclobaaGreat
