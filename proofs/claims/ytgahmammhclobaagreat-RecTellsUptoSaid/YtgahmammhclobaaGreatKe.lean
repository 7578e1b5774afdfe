import Derived.Test.YtgahmammhclobaaGreatKc
import Derived.Test.YtgahmammhclobaaGreatG4
import Derived.Test.YtgahmammhclobaaGreatK8
import Derived.Test.YtgahmammhclobaaGreatXrRecTells
set_option linter.all false
set_option linter.unusedSimpArgs false
set_option maxRecDepth 100000
namespace Go.Proofs.YtgahmammhclobaaGreat
theorem known11:osmosislaw11_known=some true:=by decide +kernel
theorem rec1_some (x1:Int) (a:oH_RawRec) (x2:Int):∃ t,oH_Rec_J1 x1 a x2 5=some t∧t.2.2.2.2.2.2.2.2.2.2.2.2.1.length≤9∧t.2.2.2.2.2.2.2.2.2.2.2.2.2.length≤9:=by
 obtain ⟨y1,h1⟩:=pick_any a.N 9 (by omega) (by omega)
 obtain ⟨y2,h2⟩:=pick_any a.N 2 (by omega) (by omega)
 obtain ⟨y3,h3⟩:=pick_any a.Epoch 6 (by omega) (by omega)
 obtain ⟨y4,h4⟩:=pick_any a.Host 5 (by omega) (by omega)
 obtain ⟨q,hq⟩:=req_some ⟨a.Op.Kind,a.Op.Key,a.Op.Value,a.Op.Old,a.Op.Client,a.Op.Seq,0,a.Op.Text⟩
 obtain ⟨i,hi,i1,i2⟩:=image2_some x2 a.Epoch a.Ops 0
 have h1:oH_Pick a.N 9=some y1:=h1
 have h2:oH_Pick a.N 2=some y2:=h2
 have h3:oH_Pick a.Epoch 6=some y3:=h3
 have h4:oH_Pick a.Host 5=some y4:=h4
 unfold oH_Rec_J1 oH_Rec_J0
 simp only [h1,h2,h3,h4,hq,hi,Option.bind_some]
 cases (IntKind.i64.wrap (1+x1) == 1)
 case true=>exact ⟨_,rfl,by simp,by simp⟩
 cases (IntKind.i64.wrap (1+x1) == 2)
 case true=>exact ⟨_,rfl,by simp,by simp⟩
 cases (IntKind.i64.wrap (1+x1) == 3)
 case true=>exact ⟨_,rfl,by simp,by simp⟩
 cases (IntKind.i64.wrap (1+x1) == 4)
 case true=>exact ⟨_,rfl,by simp,by simp⟩
 cases (IntKind.i64.wrap (1+x1) == 6)
 case true=>exact ⟨_,rfl,by simp,by simp⟩
 cases (IntKind.i64.wrap (1+x1) == 5)
 case true=>exact ⟨_,rfl,i1,i2⟩
 exact ⟨_,rfl,by simp,by simp⟩
theorem rec_some (a:oH_RawRec):∃ x,oH_Rec a 5=some x∧small x.Image:=by
 obtain ⟨x1,h1⟩:=pick_any a.Kind 6 (by omega) (by omega)
 obtain ⟨x2,h2⟩:=pick_any a.Shard 6 (by omega) (by omega)
 obtain ⟨x3,h3⟩:=pick_any a.Bend 14 (by omega) (by omega)
 obtain ⟨x4,h4⟩:=pick_any a.Kind 10 (by omega) (by omega)
 obtain ⟨x5,h5⟩:=num_some a.N
 obtain ⟨x6,h6⟩:=num_some a.Shard
 obtain ⟨x7,h7⟩:=req_some a.Op
 obtain ⟨x8,h8,i1,i2⟩:=image_some x2 a.Epoch a.Ops (IntKind.i64.wrap (Int.tdiv a.Bend 14))
 have h1:oH_Pick a.Kind 6=some x1:=h1
 have h2:oH_Pick a.Shard 6=some x2:=h2
 have h3:oH_Pick a.Bend 14=some x3:=h3
 have h4:oH_Pick a.Kind 10=some x4:=h4
 obtain ⟨t,ht,t1,t2⟩:=rec1_some x1 a x2
 unfold oH_Rec
 simp only [h1,h2,h3,h4,h5,h6,h7,h8,ht,Option.bind_some]
 have st:t.2.2.2.2.2.2.2.2.2.2.2.2.1.length < 1000000∧t.2.2.2.2.2.2.2.2.2.2.2.2.2.length < 1000000:=⟨by omega,by omega⟩
 cases (x3 == 9)
 case true=>exact ⟨_,rfl,st⟩
 cases (x3 == 10)
 case true=>exact ⟨_,rfl,st⟩
 cases (x3 == 11)
 case true=>exact ⟨_,rfl,st⟩
 cases (x3 == 12)
 case true=>exact ⟨_,rfl,st⟩
 cases (x3 == 13)
 case true=>exact ⟨_,rfl,show x8.Pairs.length < 1000000∧x8.Sess.length < 1000000 from ⟨by omega,by omega⟩⟩
 exact ⟨_,rfl,st⟩
theorem may_okN (n:Int):mayN n=decide (okN n):=by
 unfold mayN
 rw [decide_eq_decide]
 exact Iff.rfl
theorem zeroI_is (x:api_Image):zeroI x=decide (x=zeroM):=by
 obtain ⟨a,b,c,d⟩:=x
 unfold zeroI zeroM
 rw [Bool.eq_iff_iff]
 simp [and_assoc]
theorem mays_plain (r:api_Rec):oR_RightRec_L1 r 0=some (if (∀ n ∈ [r.Shard,r.Epoch,r.Host,r.N],okN n) then .inr () else .inl ()):=by
 unfold oR_RightRec_L1
 obtain ⟨e,e1,e2⟩:=anyloop [r.Shard,r.Epoch,r.Host,r.N] (fun n=>!decide (okN n)) (by simp) (oR_RightRec_L1_s r) (fun _=>()) (fun i hi=>by
  have hi':i < 4:=hi
  unfold oR_RightRec_L1_s
  rw [dec_t (by omega),cond_true,getI_at hi,Option.bind_some,may_plain,Option.bind_some,may_okN,wrap_id (by omega) (by omega),succ_cast]) (by
  unfold oR_RightRec_L1_s
  rfl)
 rw [e1]
 rcases e2 with ⟨q,i,rfl⟩ | ⟨q,rfl⟩
 ·rw [if_neg]
  intro h
  rw [List.any_eq_true] at q
  obtain ⟨x,x1,x2⟩:=q
  rw [dec_t (h x x1)] at x2
  cases x2
 ·rw [if_pos]
  intro n hn
  rw [List.any_eq_false] at q
  simpa using q n hn
theorem j2_is (r:api_Rec):oR_RightRec_J2 r=some (decide (r.Shard=0∧r.Epoch=0∧r.Host=0)):=by
 unfold oR_RightRec_J2
 simp only [lbeq_eq (α:=Int)]
 by_cases a:r.Shard=0 <;> by_cases b:r.Epoch=0 <;> by_cases c:r.Host=0 <;> simp [a,b,c]
theorem j3_is (r:api_Rec) (x:Bool):oR_RightRec_J3 r x=some (decide (r.Req=zeroQ∧r.Image=zeroM)):=by
 unfold oR_RightRec_J3
 rw [noneReq_plain,Option.bind_some,noneImage_plain,zeroI_is]
 by_cases a:r.Req=zeroQ <;> by_cases b:r.Image=zeroM <;> simp [a,b]
theorem j4_is (r:api_Rec) (x y:Bool):oR_RightRec_J4 r x y=some (decide (r.Kind=4∨r.Kind=6)):=by
 unfold oR_RightRec_J4
 simp only [lbeq_eq (α:=Int)]
 by_cases a:r.Kind=4 <;> by_cases b:r.Kind=6 <;> simp [a,b]
theorem rright_rec (r:api_Rec) (h:small r.Image):oR_RightRec r=some (rightC r):=by
 unfold oR_RightRec oR_RightRec_J0
 have no:¬ RC r→some false=some (rightC r):=fun h=>by unfold rightC; rw [dec_f h]
 rw [mayReq_plain,Option.bind_some]
 cases k4:rightQ r.Req
 case false =>
  rw [← no (by rintro ⟨_,_,_,p,_⟩; rw [k4] at p; cases p)]
  rfl
 simp only [Bool.not_true,cond_false]
 rw [mayImage_plain _ h.1 h.2,Option.bind_some]
 cases k5:rightJ r.Image
 case false =>
  rw [← no (by rintro ⟨_,_,_,_,p,_⟩; rw [k5] at p; cases p)]
  rfl
 simp only [Bool.not_true,cond_false,Option.bind_some,isL]
 rw [mays_plain,Option.bind_some]
 by_cases k3:∀ n ∈ [r.Shard,r.Epoch,r.Host,r.N],okN n
 case neg =>
  rw [if_neg k3,← no (by rintro ⟨_,_,p,_⟩; exact k3 fun n hn=>p n (List.mem_cons_of_mem _ hn))]
  rfl
 rw [if_pos k3,j2_is,Option.bind_some,j3_is,Option.bind_some,j4_is,Option.bind_some,noneReq_plain,noneImage_plain,zeroI_is]
 simp only [isL,cond_false,Option.bind_some,lbeq_eq (α:=Int)]
 have key:RC r↔(1≤r.Kind∧r.Kind≤6∧r=namedR r∧(r.Kind=2→r.N≤1)∧(r.Kind=3→r.Req≠zeroQ)∧(r.Kind=5→r.Image≠zeroM)):=by
  constructor
  ·rintro ⟨a,b,c,d,e,f⟩
   exact ⟨a,b,f⟩
  ·rintro ⟨a,b,f⟩
   refine ⟨a,b, ?_,k4,k5,f⟩
   intro n hn
   rcases List.mem_cons.1 hn with rfl | hn
   ·unfold okN; omega
   ·exact k3 n hn
 unfold rightC
 have nm:=rec_eqv r (namedR r)
 by_cases q1:r.Kind=1
 ·have e:namedR r=⟨r.Kind,0,0,0,r.N,zeroQ,zeroM⟩:=by unfold namedR; rw [if_pos (.inl q1)]
  have k:RC r↔(r.Shard=0∧r.Epoch=0∧r.Host=0)∧(r.Req=zeroQ∧r.Image=zeroM):=by
   rw [key,← nm,e]
   simp only [true_and]
   constructor
   ·rintro ⟨_,_,⟨a,b,c,d,f⟩,_⟩; exact ⟨⟨a,b,c⟩,d,f⟩
   ·rintro ⟨⟨a,b,c⟩,d,f⟩; exact ⟨by omega,by omega,⟨a,b,c,d,f⟩,by omega,fun x=>by omega,fun x=>by omega⟩
  rw [dec_t q1,cond_true,show decide (RC r)=decide _ from decide_eq_decide.2 k]
  by_cases a:r.Shard=0∧r.Epoch=0∧r.Host=0 <;> by_cases b:r.Req=zeroQ∧r.Image=zeroM <;> simp only [a,b,decide_true,decide_false,cond_true,cond_false,and_true,and_false,true_and,false_and]
 rw [dec_f q1,cond_false]
 by_cases q2:r.Kind=2
 ·have e:namedR r=⟨r.Kind,0,0,0,r.N,zeroQ,zeroM⟩:=by unfold namedR; rw [if_pos (.inr q2)]
  have k:RC r↔(r.Shard=0∧r.Epoch=0∧r.Host=0)∧(r.Req=zeroQ∧r.Image=zeroM)∧r.N≤1:=by
   rw [key,← nm,e]
   simp only [true_and]
   constructor
   ·rintro ⟨_,_,⟨a,b,c,d,f⟩,g,_⟩; exact ⟨⟨a,b,c⟩,⟨d,f⟩,g q2⟩
   ·rintro ⟨⟨a,b,c⟩,⟨d,f⟩,g⟩; exact ⟨by omega,by omega,⟨a,b,c,d,f⟩,fun _=>g,fun x=>by omega,fun x=>by omega⟩
  rw [dec_t q2,cond_true,show decide (RC r)=decide _ from decide_eq_decide.2 k]
  by_cases a:r.Shard=0∧r.Epoch=0∧r.Host=0 <;> by_cases b:r.Req=zeroQ∧r.Image=zeroM <;> simp only [a,b,decide_true,decide_false,cond_true,cond_false,and_true,and_false,true_and,false_and]
 rw [dec_f q2,cond_false]
 by_cases q3:r.Kind=3
 ·have e:namedR r=⟨r.Kind,r.Shard,0,0,0,r.Req,zeroM⟩:=by unfold namedR; rw [if_neg (by omega),if_pos q3]
  have k:RC r↔r.Epoch=0∧r.Host=0∧r.N=0∧r.Image=zeroM∧r.Req≠zeroQ:=by
   rw [key,← nm,e]
   simp only [true_and]
   constructor
   ·rintro ⟨_,_,⟨a,b,c,d⟩,_,g,_⟩; exact ⟨a,b,c,d,g q3⟩
   ·rintro ⟨a,b,c,d,g⟩; exact ⟨by omega,by omega,⟨a,b,c,d⟩,fun x=>by omega,fun _=>g,fun x=>by omega⟩
  rw [dec_t q3,cond_true,show decide (RC r)=decide _ from decide_eq_decide.2 k]
  by_cases a:r.Epoch=0 <;> by_cases b:r.Host=0 <;> by_cases c:r.N=0 <;> by_cases d:r.Image=zeroM <;> by_cases g:r.Req=zeroQ <;> simp [a,b,c,d,g]
 rw [dec_f q3,cond_false]
 by_cases q4:r.Kind=4∨r.Kind=6
 ·have e:namedR r=⟨r.Kind,r.Shard,r.Epoch,r.Host,0,zeroQ,zeroM⟩:=by unfold namedR; rw [if_neg (by omega),if_neg q3,if_pos q4]
  have k:RC r↔r.N=0∧(r.Req=zeroQ∧r.Image=zeroM):=by
   rw [key,← nm,e]
   simp only [true_and]
   constructor
   ·rintro ⟨_,_,⟨a,b,c⟩,_⟩; exact ⟨a,b,c⟩
   ·rintro ⟨a,b,c⟩; exact ⟨by omega,by omega,⟨a,b,c⟩,fun x=>by omega,fun x=>by omega,fun x=>by omega⟩
  rw [dec_t q4,cond_true,show decide (RC r)=decide _ from decide_eq_decide.2 k]
  by_cases a:r.N=0 <;> by_cases b:r.Req=zeroQ∧r.Image=zeroM <;> simp only [a,b,decide_true,decide_false,cond_true,cond_false,and_true,and_false,true_and,false_and]
 rw [dec_f q4,cond_false]
 by_cases q5:r.Kind=5
 ·have e:namedR r=⟨r.Kind,0,0,0,0,zeroQ,r.Image⟩:=by unfold namedR; rw [if_neg (by omega),if_neg q3,if_neg q4,if_pos q5]
  have k:RC r↔(r.Shard=0∧r.Epoch=0∧r.Host=0)∧r.N=0∧r.Req=zeroQ∧r.Image≠zeroM:=by
   rw [key,← nm,e]
   simp only [true_and,and_true]
   constructor
   ·rintro ⟨_,_,⟨a,b,c,d,f⟩,_,_,g⟩; exact ⟨⟨a,b,c⟩,d,f,g q5⟩
   ·rintro ⟨⟨a,b,c⟩,d,f,g⟩; exact ⟨by omega,by omega,⟨a,b,c,d,f⟩,fun x=>by omega,fun x=>by omega,fun _=>g⟩
  rw [dec_t q5,cond_true,show decide (RC r)=decide _ from decide_eq_decide.2 k]
  by_cases a:r.Shard=0∧r.Epoch=0∧r.Host=0 <;> by_cases b:r.N=0 <;> by_cases c:r.Req=zeroQ <;> by_cases d:r.Image=zeroM <;> simp only [a,b,c,d,decide_true,decide_false,cond_true,cond_false,and_true,and_false,true_and,false_and,ne_eq,not_true_eq_false,not_false_eq_true,Bool.not_true,Bool.not_false]
 ·rw [dec_f q5,cond_false,dec_f (show ¬ RC r by rw [key]; rintro ⟨a,b,_⟩; omega)]
theorem rlay_rec (r:api_Rec) (h:small r.Image):oR_LayRec r=some (if rightC r then eRec r else []):=by
 unfold oR_LayRec
 rw [rright_rec r h,Option.bind_some]
 cases hr:rightC r
 ·rfl
 obtain ⟨h1,h2,h3⟩:=rightC_parts hr
 have hl:=eRec_len hr
 unfold eRec at hl
 simp only [List.length_append] at hl
 simp only [Bool.not_true,cond_false,if_true]
 rw [rput1_plain _ _ (by simp),Option.bind_some,putOf_ok [] (l:=[r.Kind,r.Shard,r.Epoch,r.Host,r.N]) h1]
 show (oR_LayReq ([] ++ (headR r).flatMap eN) r.Req).bind _=_
 rw [List.nil_append,rlayReq_plain _ _ (by omega),h2,Option.bind_some,if_pos rfl,rlayImage_plain _ _ (by rw [List.length_append]; omega) h.1 h.2,h3,Option.bind_some,if_pos rfl,List.append_assoc]
 rfl
def rr6 (a b c d e:Int) (q:api_Req) (r:Rdr):Option (api_Rec × Rdr):=(oR_Reader_Image r).bind fun x=>some (⟨a,b,c,d,e,q,x.1⟩,x.2)
def rr5 (a b c d e:Int) (r:Rdr):=(oR_Reader_Req r).bind fun x=>rr6 a b c d e x.1 x.2
def rr4 (a b c d:Int) (r:Rdr):=(oR_Reader_Int r).bind fun x=>rr5 a b c d x.1 x.2
def rr3 (a b c:Int) (r:Rdr):=(oR_Reader_Int r).bind fun x=>rr4 a b c x.1 x.2
def rr2 (a b:Int) (r:Rdr):=(oR_Reader_Int r).bind fun x=>rr3 a b x.1 x.2
def rr1 (a:Int) (r:Rdr):=(oR_Reader_Int r).bind fun x=>rr2 a x.1 x.2
def rr0 (r:Rdr):=(oR_Reader_Int r).bind fun x=>rr1 x.1 x.2
def f6 (a b c d e:Int) (q:api_Req):Pr api_Rec:=pSeq pImg fun x s=>.inr (⟨a,b,c,d,e,q,x⟩,s)
def f5 (a b c d e:Int):Pr api_Rec:=pSeq pReq fun q=>f6 a b c d e q
def f4 (a b c d:Int):Pr api_Rec:=pSeq pNum fun e=>f5 a b c d e
def f3 (a b c:Int):Pr api_Rec:=pSeq pNum fun d=>f4 a b c d
def f2 (a b:Int):Pr api_Rec:=pSeq pNum fun c=>f3 a b c
def f1 (a:Int):Pr api_Rec:=pSeq pNum fun b=>f2 a b
theorem rr6_rd (a b c d e:Int) (q:api_Req):Rdx (rr6 a b c d e q) (f6 a b c d e q):=Rdx.seq (g:=fun x r=>some ((⟨a,b,c,d,e,q,x⟩:api_Rec),r)) (q:=fun x s=>.inr ((⟨a,b,c,d,e,q,x⟩:api_Rec),s)) img_rd img_err img_shr fun x=>Rdx.ret _
theorem rr5_rd (a b c d e:Int):Rdx (rr5 a b c d e) (f5 a b c d e):=Rdx.seq (g:=fun x r=>rr6 a b c d e x r) req_rd req_err req_shr fun x=>rr6_rd a b c d e x
theorem rr4_rd (a b c d:Int):Rdx (rr4 a b c d) (f4 a b c d):=Rdx.seq (g:=fun x r=>rr5 a b c d x r) int_rd num_err num_shr fun x=>rr5_rd a b c d x
theorem rr3_rd (a b c:Int):Rdx (rr3 a b c) (f3 a b c):=Rdx.seq (g:=fun x r=>rr4 a b c x r) int_rd num_err num_shr fun x=>rr4_rd a b c x
theorem rr2_rd (a b:Int):Rdx (rr2 a b) (f2 a b):=Rdx.seq (g:=fun x r=>rr3 a b x r) int_rd num_err num_shr fun x=>rr3_rd a b x
theorem rr1_rd (a:Int):Rdx (rr1 a) (f1 a):=Rdx.seq (g:=fun x r=>rr2 a x r) int_rd num_err num_shr fun x=>rr2_rd a x
theorem rr_rd:Rdx rr0 pRec:=by
 have e:pRec=pSeq pNum f1:=by
  unfold pRec
  simp only [pRep,pseq_assoc,pseq_ret]
  rfl
 rw [e]
 exact Rdx.seq (g:=fun x r=>rr1 x r) int_rd num_err num_shr fun x=>rr1_rd x
def fin0 (y:api_Rec × Rdr):Option Bool :=
 cond (y.2.E == 0) (cond (decide ((y.2.B.length:Int) > 0)) (some true) ((oR_RightRec y.1).bind fun (x8:Bool)=>some (!x8))) (some false)
def fin1 (y:api_Rec × Rdr):Option Rdr:=(fin0 y).bind fun x9=>cond x9 (some ⟨y.2.B,2⟩) (some y.2)
def fin (y:api_Rec × Rdr):Option (api_Rec × Int):=(fin1 y).bind fun x10=>cond (x10.E != 0) (some (zeroR,x10.E)) (some (y.1,0))
theorem read_is (b:List UInt8):oR_ReadRec b=(rr0 ⟨b,0⟩).bind fin:=by
 unfold oR_ReadRec rr0 rr1 rr2 rr3 rr4 rr5 rr6
 simp only [Option.bind_assoc,Option.bind_some]
 rfl
theorem rec_err:Err pRec:=seq_err (fun b e h=>rep_err num_err 5 b e h) fun n=>seq_err req_err fun q=>seq_err img_err fun x b e h=>by cases h
theorem rec_post:∀ b x r,pRec b=.inr (x,r)→rightJ x.Image=true :=
 seq_post fun n=>seq_post fun q b y r h=>by
  unfold pSeq at h
  split at h
  ·cases h
  ·rename_i x c hx
   simp only [Sum.inr.injEq,Prod.mk.injEq] at h
   rw [← h.1]
   exact img_ok _ _ _ hx
theorem rec_small {b:List UInt8} {x:api_Rec} {r:List UInt8} (h:pRec b=.inr (x,r)):small x.Image:=by
 have:=rightJ_small (rec_post _ _ _ h)
 exact ⟨by omega,by omega⟩
theorem rread_rec (b:List UInt8) (hb:b.length < 500000000):oR_ReadRec b=some (readR' b):=by
 rw [read_is]
 unfold readR'
 have h:=(rr_rd b 0 hb).2
 cases hp:pRec b with
 | inl er =>
  have he:er≠0:=by rcases rec_err _ _ hp with rfl | rfl <;> omega
  rw [hp] at h
  obtain ⟨x,s,h,_⟩:=h
  rw [h,Option.bind_some]
  unfold fin fin1 fin0
  simp only
  rw [beq_f he]
  simp only [cond_false,Option.bind_some]
  rw [bne_t he]
  rfl
 | inr y =>
  obtain ⟨x,s⟩:=y
  rw [hp] at h
  simp only at h
  rw [h,Option.bind_some]
  unfold fin fin1 fin0
  simp only
  rw [beq_t rfl,rright_rec x (rec_small hp)]
  simp only [cond_true,Option.bind_some]
  by_cases c:s.length=0
  ·rw [dec_f (by omega),cond_false]
   cases hc:rightC x
   ·rw [if_neg (by simp)]; rfl
   ·rw [if_pos ⟨c,rfl⟩]; rfl
  ·rw [dec_t (by omega),if_neg (by rintro ⟨p,_⟩; exact c p)]
   rfl
theorem read_small (b:List UInt8):small (readR' b).1.Image:=by
 unfold readR'
 cases hp:pRec b with
 | inl er=>exact zero_small
 | inr y =>
  obtain ⟨x,s⟩:=y
  simp only
  split
  ·exact rec_small hp
  ·exact zero_small
theorem few4000 (b:List UInt8) (h:b.length < 1000000000):oH_Few_2 b 4000=some (b.take 4000):=by
 unfold oH_Few_2
 by_cases c:4000 < b.length
 ·rw [dec_t (by omega),cond_true,show (4000:Int)=((4000:Nat):Int) from rfl,slI_to b 4000 (by omega),Option.bind_some,gd_fits1 (by simp; omega)]
 ·rw [dec_f (by omega),cond_false,gd_fits1 (by omega),List.take_of_length_le (by omega)]
theorem turn_some (w:List UInt8) (hw:w.length < 1000000) (t:Int) (v:UInt8) (c:Int) (raw:List UInt8):∃ w',osmosislaw11_RecTells_J2 w t raw v c=some w'∧w'.length=w.length:=by
 unfold osmosislaw11_RecTells_J2 osmosislaw11_RecTells_J1
 by_cases hl:w.length > 0
 ·rw [dec_t (by omega),cond_true,Option.bind_some]
  cases (Int.tmod t 3 == 0)
  ·exact ⟨w,rfl,rfl⟩
  ·obtain ⟨k,k1,k2⟩:=pick_nat (IntKind.i64.wrap (Int.tdiv t 3)) w.length hl (by omega)
   rw [cond_true,k1,Option.bind_some,getI_at k2,Option.bind_some,Option.bind_some]
   exact ⟨_,rfl,by rw [List.length_set]⟩
 ·rw [dec_f (by omega)]
  exact ⟨w,rfl,rfl⟩
theorem cut_some (w:List UInt8) (hw:w.length < 1000000) (c:Int) (raw:List UInt8):∃ w',osmosislaw11_RecTells_J3 c w raw=some w'∧w'.length≤w.length:=by
 unfold osmosislaw11_RecTells_J3
 cases (Int.tmod c 3 == 0)
 ·exact ⟨w,rfl,Nat.le_refl _⟩
 ·rw [cond_true,wrap_id (x:=(w.length:Int)+1) (by omega) (by omega),show (w.length:Int)+1=((w.length+1:Nat):Int) by omega]
  obtain ⟨k,k1,k2⟩:=pick_nat (IntKind.i64.wrap (Int.tdiv c 3)) (w.length+1) (by omega) (by omega)
  rw [k1,Option.bind_some,slI_to w k (by omega)]
  exact ⟨_,rfl,by rw [List.length_take]; omega⟩
theorem osmosislaw11_RecTells_true (x0 x1:oH_RawRec) (x2:List UInt8) (x3:Int) (x4:UInt8) (x5:Int) (o0:ok_oH_RawRec x0) (o1:ok_oH_RawRec x1) (o2:(okL okT) x2) (o3:okI x3) (o4:okT x4) (o5:okI x5) (hb:bk_oH_RawRec x0+bk_oH_RawRec x1+(bkL bk1) x2+bk1 x3+bk1 x4+bk1 x5≤1048576):osmosislaw11_RecTells x0 x1 x2 x3 x4 x5=some true:=by
 have l2:x2.length≤1048576:=by have:=bkL_len (bk:=bk1 (α:=UInt8)) (fun x=>by unfold bk1; omega) x2; omega
 obtain ⟨x,hx,sx⟩:=rec_some x0
 obtain ⟨y,hy,sy⟩:=rec_some x1
 have j0:osmosislaw11_RecTells_J0 x (if rightC x then eRec x else []) y x0 x2 x3 x4 x5=some (.inr ()):=by
  unfold osmosislaw11_RecTells_J0
  rw [right_rec x sx,Option.bind_some,rright_rec x sx,Option.bind_some,lay_rec x sx,Option.bind_some,Same_plain x y sx,Option.bind_some,rsame_plain x y sx,Option.bind_some,hx,Option.bind_some,Same_plain x x sx,Option.bind_some]
  simp
 unfold osmosislaw11_RecTells
 rw [hx,Option.bind_some,hy,Option.bind_some,rlay_rec x sx,Option.bind_some,j0,Option.bind_some]
 simp only [isL,cond_false]
 have lz:(if rightC x then eRec x else []).length≤1000:=by
  split
  ·rename_i h; exact eRec_len h
  ·simp
 generalize (if rightC x then eRec x else [])=z at *
 rw [few4000 z (by omega),Option.bind_some]
 obtain ⟨t1,h1,n1⟩:=turn_some (z.take 4000) (by rw [List.length_take]; omega) x3 x4 x5 x2
 rw [List.length_take] at n1
 obtain ⟨t2,h2,n2⟩:=cut_some t1 (by omega) x5 x2
 rw [h1,Option.bind_some,h2,Option.bind_some]
 have step:∀ i:Nat,i < 2→osmosislaw11_RecTells_L4_s t2 x2 (i:Int)=some (.inl ((i+1:Nat):Int)):=by
  intro i hi
  have hz:∃ u,getI [t2,x2] (i:Int)=some u∧u.length < 1000000000∧u.length < 500000000:=by
   rw [getI_at (by simpa using hi)]
   refine ⟨_,rfl, ?_⟩
   have:i=0∨i=1:=by omega
   rcases this with rfl | rfl
   ·show t2.length < _∧t2.length < _; omega
   ·show x2.length < _∧x2.length < _; omega
  obtain ⟨u,u1,u2,u3⟩:=hz
  unfold osmosislaw11_RecTells_L4_s
  rw [dec_t (by omega),cond_true,u1,Option.bind_some,read_rec u u3,Option.bind_some,rread_rec u u3,Option.bind_some,bne_f rfl,cond_false,rsame_plain _ _ (read_small u),Option.bind_some,dec_t rfl,wrap_id (by omega) (by omega),succ_cast]
  rfl
 have loop:osmosislaw11_RecTells_L4 t2 x2 0=some (.inr ()):=by
  unfold osmosislaw11_RecTells_L4
  refine loop_run (fun i=>(i:Int)) 2 _ step ?_ (by omega)
  unfold osmosislaw11_RecTells_L4_s
  rfl
 rw [loop,known11]
 rfl
end Go.Proofs.YtgahmammhclobaaGreat
