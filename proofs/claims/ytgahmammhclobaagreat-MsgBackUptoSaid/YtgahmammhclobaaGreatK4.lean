import Derived.Test.YtgahmammhclobaaGreatK3
set_option linter.all false
set_option linter.unusedSimpArgs false
namespace Go.Proofs.YtgahmammhclobaaGreat
theorem Lays.then {α β:Type} {p:Pr α} {x:α} {e:List UInt8} {q:α→Pr β} {y:β} (h:Lays p x e) (g:∀ r,q x r=.inr (y,r)):Lays (pSeq p q) y e:=h.last g
def mkQ (n:List Int) (s:List (List UInt8)):api_Req:=⟨n.getD 0 0,n.getD 1 0,⟨n.getD 2 0,s.getD 0 [],s.getD 1 [],s.getD 2 []⟩⟩
def pReq:Pr api_Req:=pSeq (pRep pNum 3) fun n=>pSeq (pRep pText 3) fun s=>pChk rightQ (mkQ n s)
theorem req_shr:Shr pReq:=seq_shr (rep_shr num_shr 3) fun _=>seq_shr (rep_shr text_shr 3) fun _=>chk_shr _ _
theorem req_err:Err pReq:=seq_err (rep_err num_err 3) fun _=>seq_err (rep_err text_err 3) fun _=>chk_err _ _
theorem req_lays {r:api_Req} (h:rightQ r=true):Lays pReq r (eReq r):=by
 obtain ⟨h1,h2,h3,h4,h5,h6⟩:=rightQ_small h
 have a:=Lays.rep (p:=pNum) (enc:=eN) [r.Client,r.Seq,r.Op.Kind] (fun x hx=>by
  simp only [List.mem_cons,List.not_mem_nil,or_false] at hx
  rcases hx with rfl | rfl | rfl <;> exact f_num.lays (by assumption))
 have b:=Lays.rep (p:=pText) (enc:=eT) [r.Op.Key,r.Op.Value,r.Op.Old] (fun x hx=>by
  simp only [List.mem_cons,List.not_mem_nil,or_false] at hx
  rcases hx with rfl | rfl | rfl <;> exact f_text.lays (by unfold okS; omega))
 exact a.seq (b.last fun s=>by
  show pChk rightQ r s=_
  unfold pChk
  rw [if_pos h])
theorem getI_3 {α:Type} {l:List α} (d:α) {n:Nat} (hl:l.length=n) (i:Nat) (hi:i < n):getI l (i:Int)=some (l.getD i d):=by
 rw [getI_at (by omega),List.getD_eq_getElem?_getD,List.getElem?_eq_getElem (by omega)]
 rfl
theorem readReq_plain (b:List UInt8) (hb:b.length < 800000000):codec_ReadReq b=some (match pReq b with
  | .inl e=>(zeroQ,[],e)
  | .inr (r,s)=>(r,s,0)):=by
 unfold codec_ReadReq pReq
 have ht:=takes_plain b 3 (by omega) (by omega)
 rw [show ((3:Nat):Int)=3 from rfl] at ht
 rw [ht,Option.bind_some]
 cases h1:pRep pNum 3 b with
 | inl e =>
  have he:e≠0:=by rcases rep_err num_err 3 _ _ h1 with rfl | rfl <;> omega
  rw [pSeq_l h1]
  simp only
  rw [bne_t he]
  rfl
 | inr y =>
  obtain ⟨n,c⟩:=y
  have hn:=rep_len h1
  have hc:=rep_shr num_shr 3 _ _ _ h1
  rw [pSeq_r h1]
  have hx:=texts_plain c 3 (by omega) (by omega)
  rw [show ((3:Nat):Int)=3 from rfl] at hx
  simp only
  rw [bne_f rfl,cond_false,hx,Option.bind_some]
  cases h2:pRep pText 3 c with
  | inl e =>
   have he:e≠0:=by rcases rep_err text_err 3 _ _ h2 with rfl | rfl <;> omega
   rw [pSeq_l h2]
   simp only
   rw [bne_t he]
   rfl
  | inr y =>
   obtain ⟨s,r⟩:=y
   have hs:=rep_len h2
   rw [pSeq_r h2]
   simp only
   rw [bne_f rfl,cond_false]
   have n0:=getI_3 (0:Int) hn 0 (by omega)
   have n1:=getI_3 (0:Int) hn 1 (by omega)
   have n2:=getI_3 (0:Int) hn 2 (by omega)
   have s0:=getI_3 ([]:List UInt8) hs 0 (by omega)
   have s1:=getI_3 ([]:List UInt8) hs 1 (by omega)
   have s2:=getI_3 ([]:List UInt8) hs 2 (by omega)
   rw [show ((0:Nat):Int)=0 from rfl] at n0 s0
   rw [show ((1:Nat):Int)=1 from rfl] at n1 s1
   rw [show ((2:Nat):Int)=2 from rfl] at n2 s2
   rw [n0,Option.bind_some,n1,Option.bind_some,n2,Option.bind_some,s0,Option.bind_some,s1,Option.bind_some,s2,Option.bind_some,rightReq_plain,Option.bind_some]
   show cond (!rightQ (mkQ n s)) _ (some (mkQ n s,r,0))=_
   unfold pChk
   cases rightQ (mkQ n s) <;> rfl
def zeroA:api_Answer:=⟨0,[]⟩
def pAns:Pr api_Answer:=pSeq pNum fun n=>pSeq pText fun s=>pChk rightA ⟨n,s⟩
theorem ans_shr:Shr pAns:=seq_shr num_shr fun _=>seq_shr text_shr fun _=>chk_shr _ _
theorem ans_err:Err pAns:=seq_err num_err fun _=>seq_err text_err fun _=>chk_err _ _
theorem ans_lays {a:api_Answer} (h:rightA a=true):Lays pAns a (eAns a):=by
 obtain ⟨h1,h2⟩:=rightA_small h
 exact (f_num.lays h1).seq ((f_text.lays (show okS a.Value by unfold okS; omega)).last fun s=>by
  show pChk rightA a s=_
  unfold pChk
  rw [if_pos h])
theorem Take_num (b:List UInt8) (hb:b.length < 900000000):nums_Take b=some (match pNum b with
  | .inl e=>(0,[],e)
  | .inr (n,r)=>(n,r,0)):=by
 rw [Take_plain b (by omega)]
 unfold TakeOf pNum
 rcases takeOf_cases b with e | e | ⟨v,k,e,_⟩ <;> rw [e] <;> rfl
theorem readAns_plain (b:List UInt8) (hb:b.length < 800000000):codec_ReadAnswer b=some (match pAns b with
  | .inl e=>(zeroA,[],e)
  | .inr (a,s)=>(a,s,0)):=by
 unfold codec_ReadAnswer pAns
 rw [Take_num b (by omega),Option.bind_some]
 cases h1:pNum b with
 | inl e =>
  have he:e≠0:=by rcases num_err _ _ h1 with rfl | rfl <;> omega
  rw [pSeq_l h1]
  simp only
  rw [bne_t he]
  rfl
 | inr y =>
  obtain ⟨n,c⟩:=y
  have hc:=num_shr _ _ _ h1
  rw [pSeq_r h1]
  simp only
  rw [bne_f rfl,cond_false,takeText_plain c (by omega),Option.bind_some]
  cases h2:pText c with
  | inl e =>
   have he:e≠0:=by rcases text_err _ _ h2 with rfl | rfl <;> omega
   rw [pSeq_l h2]
   simp only
   rw [bne_t he]
   rfl
  | inr y =>
   obtain ⟨s,r⟩:=y
   rw [pSeq_r h2]
   simp only
   rw [bne_f rfl,cond_false,rightAns_plain,Option.bind_some]
   unfold pChk
   cases rightA ⟨n,s⟩ <;> rfl
def pPair:Pr api_Pair:=pSeq (pRep pText 2) fun s b=>.inr (⟨s.getD 0 [],s.getD 1 []⟩,b)
def pSess:Pr api_Sess:=pSeq (pRep pNum 2) fun n=>pSeq pAns fun a b=>.inr (⟨n.getD 0 0,n.getD 1 0,a⟩,b)
def pCnt (m:Int):Pr Int:=pSeq pNum fun n b=>if n≤m then .inr (n,b) else .inl 2
def pImg:Pr api_Image:=pSeq (pRep pNum 2) fun n=>pSeq (pCnt 8) fun c=>pSeq (pRep pPair c.toNat) fun ps=>pSeq (pCnt 4) fun d=>pSeq (pRep pSess d.toNat) fun ss=>pChk rightJ ⟨n.getD 0 0,n.getD 1 0,ps,ss⟩
theorem tail_shr {α:Type} (x:α):Shr (fun b=>.inr (x,b)):=fun b y r h=>by
 simp only [Sum.inr.injEq,Prod.mk.injEq] at h
 rw [h.2]
 exact Nat.le_refl _
theorem tail_err {α:Type} (x:α):Err (fun b=>.inr (x,b)):=fun b e h=>by cases h
theorem cnt_shr (m:Int):Shr (pCnt m):=seq_shr num_shr fun n b y r h=>by
 split at h
 ·simp only [Sum.inr.injEq,Prod.mk.injEq] at h
  rw [h.2]
  exact Nat.le_refl _
 ·cases h
theorem cnt_err (m:Int):Err (pCnt m):=seq_err num_err fun n b e h=>by
 split at h
 ·cases h
 ·exact .inl (Sum.inl.inj h).symm
theorem cnt_ok {m:Int} {b r:List UInt8} {n:Int} (h:pCnt m b=.inr (n,r)):0≤n∧n≤m:=by
 unfold pCnt pSeq at h
 split at h
 ·cases h
 ·rename_i e
  simp only at h
  split at h
  ·have:=num_ok e
   unfold okN at this
   simp only [Sum.inr.injEq,Prod.mk.injEq] at h
   omega
  ·cases h
theorem pair_shr:Shr pPair:=seq_shr (rep_shr text_shr 2) fun _=>tail_shr _
theorem pair_err:Err pPair:=seq_err (rep_err text_err 2) fun _=>tail_err _
theorem sess_shr:Shr pSess:=seq_shr (rep_shr num_shr 2) fun _=>seq_shr ans_shr fun _=>tail_shr _
theorem sess_err:Err pSess:=seq_err (rep_err num_err 2) fun _=>seq_err ans_err fun _=>tail_err _
theorem img_err:Err pImg:=seq_err (rep_err num_err 2) fun _=>seq_err (cnt_err 8) fun _=>seq_err (rep_err pair_err _) fun _=>seq_err (cnt_err 4) fun _=>seq_err (rep_err sess_err _) fun _=>chk_err _ _
theorem pair_lays {p:api_Pair} (h:p.Key.length≤8∧p.Value.length≤16):Lays pPair p (ePair p):=by
 have b:=Lays.rep (p:=pText) (enc:=eT) [p.Key,p.Value] (fun x hx=>by
  simp only [List.mem_cons,List.not_mem_nil,or_false] at hx
  rcases hx with rfl | rfl <;> exact f_text.lays (by unfold okS; omega))
 have:=b.last (q:=fun s b=>.inr (⟨s.getD 0 [],s.getD 1 []⟩,b)) (y:=p) fun s=>rfl
 simp only [List.flatMap_cons,List.flatMap_nil,List.append_nil] at this
 exact this
theorem sess_lays {s:api_Sess} (h:okN s.Client∧okN s.Seq∧rightA s.Answer=true):Lays pSess s (eSess s):=by
 have a:=Lays.rep (p:=pNum) (enc:=eN) [s.Client,s.Seq] (fun x hx=>by
  simp only [List.mem_cons,List.not_mem_nil,or_false] at hx
  rcases hx with rfl | rfl
  ·exact f_num.lays h.1
  ·exact f_num.lays h.2.1)
 exact a.seq ((ans_lays h.2.2).last fun _=>rfl)
theorem cnt_lays {m:Int} {n:Nat} (h:(n:Int)≤m) (h2:n≤4611686018427387903):Lays (pCnt m) (n:Int) (eN (n:Int)) :=
 (f_num.lays (show okN (n:Int) by unfold okN; omega)).last fun _=>by rw [if_pos h]
theorem img_lays {x:api_Image} (h:rightJ x=true):Lays pImg x (eImg x):=by
 obtain ⟨h1,h2,h3,h4,h5,h6⟩:=rightJ_small h
 have a:=Lays.rep (p:=pNum) (enc:=eN) [x.Shard,x.Epoch] (fun z hz=>by
  simp only [List.mem_cons,List.not_mem_nil,or_false] at hz
  rcases hz with rfl | rfl
  ·exact f_num.lays h1
  ·exact f_num.lays h2)
 have b:=Lays.rep (p:=pPair) (enc:=ePair) x.Pairs fun p hp=>pair_lays (h5 p hp)
 have c:=Lays.rep (p:=pSess) (enc:=eSess) x.Sess fun s hs=>sess_lays (h6 s hs)
 exact a.seq ((cnt_lays (by omega) (by omega)).seq (b.seq ((cnt_lays (by omega) (by omega)).seq (c.last fun s=>by
  show pChk rightJ x s=_
  unfold pChk
  rw [if_pos h]))))
theorem makeB8 (n:Nat) (h:n < 1000000):makeB 8 (n:Int)=true:=by
 unfold makeB
 simp
 omega
theorem numbers_plain (n:Nat) (r:codec_reader) (hn:n < 1000000) (hb:r.b.length < 800000000):codec_reader_numbers (n:Int) r=some (if r.e=0 then (match pRep pNum n r.b with
  | .inl e=>(List.replicate n 0,⟨[],e⟩)
  | .inr (l,s)=>(l,⟨s,0⟩)) else (List.replicate n 0,r)):=by
 unfold codec_reader_numbers
 rw [gd_true (makeB8 n hn),Int.toNat_natCast]
 by_cases he:r.e=0
 ·rw [beq_t he,cond_true,if_pos he,takes_plain r.b n (by omega) hn,Option.bind_some]
  cases h:pRep pNum n r.b with
  | inl e =>
   have:e≠0:=by rcases rep_err num_err n _ _ h with rfl | rfl <;> omega
   simp only
   rw [beq_f this]
   rfl
  | inr y=>rfl
 ·rw [beq_f he,cond_false,if_neg he]
theorem num1_bad (r:codec_reader) (hb:r.b.length < 800000000) (he:r.e=0) {e:Int} (h:pNum r.b=.inl e):codec_reader_numbers 1 r=some ([0],⟨[],e⟩):=by
 have h1:=numbers_plain 1 r (by omega) hb
 rw [show ((1:Nat):Int)=1 from rfl,if_pos he,show pRep pNum 1 r.b=.inl e from pSeq_l h] at h1
 exact h1
theorem num1_good (r:codec_reader) (hb:r.b.length < 800000000) (he:r.e=0) {n:Int} {s:List UInt8} (h:pNum r.b=.inr (n,s)):codec_reader_numbers 1 r=some ([n],⟨s,0⟩):=by
 have h1:=numbers_plain 1 r (by omega) hb
 rw [show ((1:Nat):Int)=1 from rfl,if_pos he,show pRep pNum 1 r.b=.inr ([n],s) by simp only [pRep]; rw [pSeq_r h]; rfl] at h1
 exact h1
theorem count_err (m:Nat) (r:codec_reader) (hb:r.b.length < 800000000) (he:r.e≠0):codec_reader_count (m:Int) r=some (0,r):=by
 have h1:=numbers_plain 1 r (by omega) hb
 rw [show ((1:Nat):Int)=1 from rfl,if_neg he] at h1
 unfold codec_reader_count
 rw [h1,Option.bind_some]
 simp only [List.replicate]
 rw [show getI [(0:Int)] 0=some 0 from rfl,Option.bind_some,dec_f (by omega),cond_false]
theorem count_bad (m:Nat) (r:codec_reader) (hb:r.b.length < 800000000) (he:r.e=0) {e:Int} (h:pCnt m r.b=.inl e):∃ c,codec_reader_count (m:Int) r=some (0,⟨c,e⟩)∧c.length≤r.b.length:=by
 unfold pCnt at h
 unfold codec_reader_count
 cases hn:pNum r.b with
 | inl e' =>
  rw [pSeq_l hn] at h
  obtain rfl:=Sum.inl.inj h
  rw [num1_bad r hb he hn,Option.bind_some]
  rw [show getI [(0:Int)] 0=some 0 from rfl,Option.bind_some,dec_f (by omega),cond_false]
  exact ⟨_,rfl,by simp⟩
 | inr y =>
  obtain ⟨n,s⟩:=y
  have:=num_shr _ _ _ hn
  rw [pSeq_r hn] at h
  rw [num1_good r hb he hn,Option.bind_some]
  rw [show getI [n] 0=some n from rfl,Option.bind_some]
  split at h
  ·cases h
  ·rename_i c
   obtain rfl:=Sum.inl.inj h
   rw [dec_t (by omega),cond_true]
   exact ⟨_,rfl,by omega⟩
theorem count_good (m:Nat) (r:codec_reader) (hb:r.b.length < 800000000) (he:r.e=0) {n:Int} {s:List UInt8} (h:pCnt m r.b=.inr (n,s)):codec_reader_count (m:Int) r=some (n,⟨s,0⟩):=by
 unfold pCnt at h
 unfold codec_reader_count
 cases hn:pNum r.b with
 | inl e'=>rw [pSeq_l hn] at h; cases h
 | inr y =>
  obtain ⟨n',s'⟩:=y
  rw [pSeq_r hn] at h
  split at h
  ·rename_i c
   obtain ⟨rfl,rfl⟩:=Prod.mk.inj (Sum.inr.inj h)
   rw [num1_good r hb he hn,Option.bind_some]
   rw [show getI [n'] 0=some n' from rfl,Option.bind_some,dec_f (by omega),cond_false]
  ·cases h
theorem pairR_plain (r:codec_reader) (hb:r.b.length < 800000000) (he:r.e=0):codec_reader_pair r=some (match pPair r.b with
  | .inl e=>(⟨[],[]⟩,⟨[],e⟩)
  | .inr (x,s)=>(x,⟨s,0⟩)):=by
 unfold codec_reader_pair pPair
 have hx:=texts_plain r.b 2 (by omega) (by omega)
 rw [show ((2:Nat):Int)=2 from rfl] at hx
 rw [beq_t he,cond_true,hx,Option.bind_some]
 cases h:pRep pText 2 r.b with
 | inl e =>
  have:e≠0:=by rcases rep_err text_err 2 _ _ h with rfl | rfl <;> omega
  rw [pSeq_l h]
  simp only
  rw [beq_f this]
  rfl
 | inr y =>
  obtain ⟨l,s⟩:=y
  have hl:=rep_len h
  have s0:=getI_3 ([]:List UInt8) hl 0 (by omega)
  have s1:=getI_3 ([]:List UInt8) hl 1 (by omega)
  rw [show ((0:Nat):Int)=0 from rfl] at s0
  rw [show ((1:Nat):Int)=1 from rfl] at s1
  rw [pSeq_r h]
  simp only
  rw [beq_t rfl,cond_true,s0,Option.bind_some,s1,Option.bind_some]
theorem pairR_err (r:codec_reader) (he:r.e≠0):codec_reader_pair r=some (⟨[],[]⟩,r):=by
 unfold codec_reader_pair
 rw [beq_f he,cond_false]
theorem sessR_plain (r:codec_reader) (hb:r.b.length < 800000000) (he:r.e=0):match pSess r.b with
  | .inl e=>∃ x,codec_reader_sess r=some (x,⟨[],e⟩)
  | .inr (x,s)=>codec_reader_sess r=some (x,⟨s,0⟩):=by
 unfold codec_reader_sess pSess
 have hx:=numbers_plain 2 r (by omega) hb
 rw [show ((2:Nat):Int)=2 from rfl,if_pos he] at hx
 rw [hx]
 cases h:pRep pNum 2 r.b with
 | inl e =>
  have:e≠0:=by rcases rep_err num_err 2 _ _ h with rfl | rfl <;> omega
  rw [pSeq_l h]
  refine ⟨⟨0,0,⟨0,[]⟩⟩, ?_⟩
  simp only [Option.bind_some]
  rw [show getI (List.replicate 2 (0:Int)) 0=some 0 from rfl,Option.bind_some,show getI (List.replicate 2 (0:Int)) 1=some 0 from rfl,Option.bind_some,beq_f this]
  rfl
 | inr y =>
  obtain ⟨l,s⟩:=y
  have hl:=rep_len h
  have hs:=rep_shr num_shr 2 _ _ _ h
  have s0:=getI_3 (0:Int) hl 0 (by omega)
  have s1:=getI_3 (0:Int) hl 1 (by omega)
  rw [show ((0:Nat):Int)=0 from rfl] at s0
  rw [show ((1:Nat):Int)=1 from rfl] at s1
  rw [pSeq_r h]
  simp only [Option.bind_some]
  rw [s0,Option.bind_some,s1,Option.bind_some,beq_t rfl,cond_true,readAns_plain s (by omega),Option.bind_some]
  cases h2:pAns s with
  | inl e =>
   rw [pSeq_l h2]
   exact ⟨_,rfl⟩
  | inr y =>
   obtain ⟨a,t⟩:=y
   rw [pSeq_r h2]
theorem sessR_err (r:codec_reader) (hb:r.b.length < 800000000) (he:r.e≠0):codec_reader_sess r=some (⟨0,0,⟨0,[]⟩⟩,r):=by
 unfold codec_reader_sess
 have hx:=numbers_plain 2 r (by omega) hb
 rw [show ((2:Nat):Int)=2 from rfl,if_neg he] at hx
 rw [hx,Option.bind_some]
 simp only
 rw [show getI (List.replicate 2 (0:Int)) 0=some 0 from rfl,Option.bind_some,show getI (List.replicate 2 (0:Int)) 1=some 0 from rfl,Option.bind_some,beq_f he,cond_false]
theorem sticky {α E:Type} {p:Pr α} (n:Nat) (hn:n < 1000000) (f:Int × codec_reader × List α→Option ((Int × codec_reader × List α) ⊕ (codec_reader × List α))) (m:Nat) (hm:m < 700000000) (hp:Shr p) (he:Err p)
  (h1:∀ (i:Nat) (b:List UInt8) (acc:List α),i < n→b.length≤m→acc.length=i→match p b with
   | .inl e=>∃ x,f ((i:Int),⟨b,0⟩,acc)=some (.inl (((i+1:Nat):Int),⟨[],e⟩,acc ++ [x]))
   | .inr (x,r)=>f ((i:Int),⟨b,0⟩,acc)=some (.inl (((i+1:Nat):Int),⟨r,0⟩,acc ++ [x])))
  (h2:∀ (i:Nat) (b:List UInt8) (e:Int) (acc:List α),i < n→b.length≤m→e≠0→acc.length=i→∃ x,f ((i:Int),⟨b,e⟩,acc)=some (.inl (((i+1:Nat):Int),⟨b,e⟩,acc ++ [x])))
  (h3:∀ r acc,f ((n:Int),r,acc)=some (.inr (r,acc))) :
  (∀ (j k:Nat) (b:List UInt8) (e:Int) (acc:List α),j≤n→b.length≤m→e≠0→acc.length=n - j→j < k→∃ l,loopX f k (((n - j:Nat):Int),⟨b,e⟩,acc)=some (⟨b,e⟩,l)∧l.length=n) ∧
  ∀ (j k:Nat) (b:List UInt8) (acc:List α),j≤n→b.length≤m→acc.length=n - j→j < k→match pRep p j b with
   | .inl e=>∃ l,loopX f k (((n - j:Nat):Int),⟨b,0⟩,acc)=some (⟨[],e⟩,l)∧l.length=n
   | .inr (l,r)=>loopX f k (((n - j:Nat):Int),⟨b,0⟩,acc)=some (⟨r,0⟩,acc ++ l):=by
 have bad:∀ (j k:Nat) (b:List UInt8) (e:Int) (acc:List α),j≤n→b.length≤m→e≠0→acc.length=n - j→j < k→∃ l,loopX f k (((n - j:Nat):Int),⟨b,e⟩,acc)=some (⟨b,e⟩,l)∧l.length=n:=by
  intro j
  induction j with
  | zero =>
   intro k b e acc _ _ _ ha hk
   obtain ⟨k,rfl⟩:∃ i,k=i+1:=⟨k - 1,by omega⟩
   exact ⟨acc,by simp only [loopX,Nat.sub_zero,h3],by omega⟩
  | succ j ih =>
   intro k b e acc hj hb hee ha hk
   obtain ⟨k,rfl⟩:∃ i,k=i+1:=⟨k - 1,by omega⟩
   obtain ⟨x,hx⟩:=h2 (n - (j+1)) b e acc (by omega) hb hee ha
   obtain ⟨l,i1,i2⟩:=ih k b e (acc ++ [x]) (by omega) hb hee (by simp; omega) (by omega)
   refine ⟨l, ?_,i2⟩
   simp only [loopX,hx]
   rw [show n - (j+1)+1=n - j by omega]
   exact i1
 refine ⟨bad, ?_⟩
 intro j
 induction j with
 | zero =>
  intro k b acc _ _ ha hk
  obtain ⟨k,rfl⟩:∃ i,k=i+1:=⟨k - 1,by omega⟩
  simp only [pRep,loopX,Nat.sub_zero,h3,List.append_nil]
 | succ j ih =>
  intro k b acc hj hb ha hk
  obtain ⟨k,rfl⟩:∃ i,k=i+1:=⟨k - 1,by omega⟩
  have h:=h1 (n - (j+1)) b acc (by omega) hb ha
  simp only [pRep,pSeq]
  cases hx:p b with
  | inl e =>
   rw [hx] at h
   obtain ⟨x,h⟩:=h
   have hne:e≠0:=by rcases he _ _ hx with rfl | rfl <;> omega
   obtain ⟨l,i1,i2⟩:=bad j k [] e (acc ++ [x]) (by omega) (by simp) hne (by simp; omega) (by omega)
   refine ⟨l, ?_,i2⟩
   simp only [loopX,h]
   rw [show n - (j+1)+1=n - j by omega]
   exact i1
  | inr y =>
   obtain ⟨x,r⟩:=y
   rw [hx] at h
   have hs:=hp _ _ _ hx
   have i:=ih k r (acc ++ [x]) (by omega) (by omega) (by simp; omega) (by omega)
   simp only at h ⊢
   cases hy:pRep p j r with
   | inl e =>
    rw [hy] at i
    obtain ⟨l,i1,i2⟩:=i
    refine ⟨l, ?_,i2⟩
    simp only [loopX,h]
    rw [show n - (j+1)+1=n - j by omega]
    exact i1
   | inr z =>
    obtain ⟨l,s⟩:=z
    rw [hy] at i
    simp only at i ⊢
    simp only [loopX,h]
    rw [show n - (j+1)+1=n - j by omega,i]
    simp
end Go.Proofs.YtgahmammhclobaaGreat
