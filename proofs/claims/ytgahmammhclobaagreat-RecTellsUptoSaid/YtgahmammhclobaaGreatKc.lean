import Derived.Test.YtgahmammhclobaaGreatKb
set_option linter.all false
set_option linter.unusedSimpArgs false
namespace Go.Proofs.YtgahmammhclobaaGreat
theorem cnt_is (m:Int) (hm:0≤m) (b:List UInt8) (e:Int) (hb:b.length < 500000000):(e≠0→oR_Reader_Count m ⟨b,e⟩=some (0,⟨b,e⟩))∧(match pCnt m b with
  | .inl er=>∃ s,oR_Reader_Count m ⟨b,0⟩=some (0,⟨s,er⟩)∧s.length≤b.length
  | .inr (n,s)=>oR_Reader_Count m ⟨b,0⟩=some (n,⟨s,0⟩)):=by
 obtain ⟨h1,h2⟩:=int_rd b e hb
 unfold oR_Reader_Count oR_Reader_Count_J0
 refine ⟨fun he=>?_, ?_⟩
 ·obtain ⟨x,hx⟩:=h1 he
  rw [hx,Option.bind_some]
  simp only
  rw [fail_plain,if_neg he]
  cases decide (x > m)
  ·simp only [cond_false,Option.bind_some]
   rw [bne_t he]; rfl
  ·simp only [cond_true,Option.bind_some]
   rw [bne_t he]; rfl
 ·unfold pCnt pSeq
  cases hp:pNum b with
  | inl er =>
   have he:er≠0:=by rcases num_err _ _ hp with rfl | rfl <;> omega
   rw [hp] at h2
   obtain ⟨x,s,hx,hs⟩:=h2
   refine ⟨s, ?_,hs⟩
   rw [hx,Option.bind_some]
   simp only
   rw [fail_plain,if_neg he]
   cases decide (x > m)
   ·simp only [cond_false,Option.bind_some]
    rw [bne_t he]; rfl
   ·simp only [cond_true,Option.bind_some]
    rw [bne_t he]; rfl
  | inr y =>
   obtain ⟨n,s⟩:=y
   have hs:=num_shr _ _ _ hp
   rw [hp] at h2
   simp only at h2 ⊢
   rw [h2,Option.bind_some]
   simp only
   rw [fail_plain,if_pos rfl]
   by_cases c:n≤m
   ·rw [dec_f (by omega),if_pos c]
    rfl
   ·rw [dec_t (by omega),if_neg c]
    exact ⟨s,rfl,hs⟩
theorem Rdx.cnt {β:Type} {g:Int→Rdr→Option (β × Rdr)} {q:Int→Pr β} (m:Nat) (k:∀ n:Nat,n≤m→Rdx (g (n:Int)) (q (n:Int))):Rdx (fun r=>(oR_Reader_Count (m:Int) r).bind fun y=>g y.1 y.2) (pSeq (pCnt (m:Int)) q):=by
 intro b e hb
 obtain ⟨h1,h2⟩:=cnt_is (m:Int) (by omega) b e hb
 have k0:=k 0 (by omega)
 refine ⟨fun he=>?_, ?_⟩
 ·simp only [h1 he,Option.bind_some]
  exact (k0 b e hb).1 he
 ·unfold pSeq
  cases hp:pCnt (m:Int) b with
  | inl er =>
   have he:er≠0:=by rcases cnt_err _ _ _ hp with rfl | rfl <;> omega
   rw [hp] at h2
   obtain ⟨s,hx,hs⟩:=h2
   obtain ⟨y,hy⟩:=(k0 s er (by omega)).1 he
   refine ⟨y,s, ?_,hs⟩
   simp only [hx,Option.bind_some]
   exact hy
  | inr y =>
   obtain ⟨n,s⟩:=y
   have hn:=cnt_ok hp
   have hs:=cnt_shr _ _ _ _ hp
   rw [hp] at h2
   obtain ⟨n,rfl⟩:∃ n':Nat,n=(n':Int):=⟨n.toNat,by omega⟩
   have h3:=(k n (by omega) s 0 (by omega)).2
   simp only at h2 ⊢
   simp only [h2,Option.bind_some]
   cases hq:q (n:Int) s with
   | inl er =>
    rw [hq] at h3
    obtain ⟨z,t,hz,ht⟩:=h3
    exact ⟨z,t,hz,by omega⟩
   | inr z =>
    rw [hq] at h3
    exact h3
theorem rloop {α:Type} {p:Pr α} (f:Int × Rdr × List α→Option ((Int × Rdr × List α) ⊕ (Rdr × List α))) (hp:Shr p) (he:Err p)
  (h0:∀ (k:Nat) b e acc,(k=0∨e≠0)→f ((k:Int),⟨b,e⟩,acc)=some (.inr (⟨b,e⟩,acc)))
  (h1:∀ (k:Nat) b acc,b.length < 500000000→k < 100→acc.length < 100→match p b with
   | .inl e=>∃ x s,f (((k+1:Nat):Int),⟨b,0⟩,acc)=some (.inl ((k:Int),⟨s,e⟩,acc ++ [x]))∧s.length≤b.length
   | .inr (x,s)=>f (((k+1:Nat):Int),⟨b,0⟩,acc)=some (.inl ((k:Int),⟨s,0⟩,acc ++ [x]))) :
  ∀ (k j:Nat) b acc,k < j→b.length < 500000000→acc.length+k≤90→match pRep p k b with
   | .inl e=>∃ l s,loopX f j ((k:Int),⟨b,0⟩,acc)=some (⟨s,e⟩,l)∧l.length≤acc.length+k∧s.length≤b.length
   | .inr (l,s)=>loopX f j ((k:Int),⟨b,0⟩,acc)=some (⟨s,0⟩,acc ++ l)
 | 0,j,b,acc,hj,_,_=>by
  obtain ⟨j,rfl⟩:∃ i,j=i+1:=⟨j - 1,by omega⟩
  simp only [pRep,loopX,h0 0 b 0 acc (.inl rfl),List.append_nil]
 | k+1,j,b,acc,hj,hb,ha=>by
  obtain ⟨j,rfl⟩:∃ i,j=i+1:=⟨j - 1,by omega⟩
  have h:=h1 k b acc hb (by omega) (by omega)
  simp only [pRep,pSeq]
  cases hx:p b with
  | inl e =>
   rw [hx] at h
   obtain ⟨x,s,h,hs⟩:=h
   have hne:e≠0:=by rcases he _ _ hx with rfl | rfl <;> omega
   obtain ⟨j,rfl⟩:∃ i,j=i+1:=⟨j - 1,by omega⟩
   refine ⟨acc ++ [x],s, ?_,by simp only [List.length_append,List.length_singleton]; omega,hs⟩
   simp only [loopX,h,h0 k s e (acc ++ [x]) (.inr hne)]
  | inr y =>
   obtain ⟨x,s⟩:=y
   rw [hx] at h
   have hs:=hp _ _ _ hx
   have i:=rloop f hp he h0 h1 k j s (acc ++ [x]) (by omega) (by omega) (by simp; omega)
   simp only at h ⊢
   cases hy:pRep p k s with
   | inl e =>
    rw [hy] at i
    obtain ⟨l,t,i1,i2,i3⟩:=i
    refine ⟨l,t, ?_,by simp at i2; omega,by omega⟩
    simp only [loopX,h]
    exact i1
   | inr z =>
    obtain ⟨l,t⟩:=z
    rw [hy] at i
    simp only at i ⊢
    simp only [loopX,h]
    rw [i]
    simp
theorem Rdx.loop {α β:Type} {p:Pr α} (c:Nat) {F:Rdr→Option (Rdr × List α)} {g:List α→Rdr→Option (β × Rdr)} {q:List α→Pr β} (hp:Shr p) (he:Err p)
  (h1:∀ b e,e≠0→F ⟨b,e⟩=some (⟨b,e⟩,[]))
  (h2:∀ b,b.length < 500000000→match pRep p c b with
   | .inl e=>∃ l s,F ⟨b,0⟩=some (⟨s,e⟩,l)∧l.length≤c∧s.length≤b.length
   | .inr (l,s)=>F ⟨b,0⟩=some (⟨s,0⟩,l)) (k:∀ l,l.length≤c→Rdx (g l) (q l)):Rdx (fun r=>(F r).bind fun y=>g y.2 y.1) (pSeq (pRep p c) q):=by
 intro b e hb
 have h2:=h2 b hb
 refine ⟨fun hee=>?_, ?_⟩
 ·simp only [h1 b e hee,Option.bind_some]
  exact (k [] (by simp) b e hb).1 hee
 ·unfold pSeq
  cases hx:pRep p c b with
  | inl er =>
   have hne:er≠0:=by rcases rep_err he c _ _ hx with rfl | rfl <;> omega
   rw [hx] at h2
   obtain ⟨l,s,hf,hl,hs⟩:=h2
   obtain ⟨y,hy⟩:=(k l hl s er (by omega)).1 hne
   refine ⟨y,s, ?_,hs⟩
   simp only [hf,Option.bind_some]
   exact hy
  | inr y =>
   obtain ⟨l,s⟩:=y
   have hl:=rep_len hx
   have hs:=rep_shr hp c _ _ _ hx
   rw [hx] at h2
   have h3:=(k l (by omega) s 0 (by omega)).2
   simp only at h2 ⊢
   simp only [h2,Option.bind_some]
   cases hq:q l s with
   | inl er =>
    rw [hq] at h3
    obtain ⟨z,t,hz,ht⟩:=h3
    exact ⟨z,t,hz,by omega⟩
   | inr z =>
    rw [hq] at h3
    exact h3
def pr1 (a:List UInt8) (r:Rdr):Option (api_Pair × Rdr):=(oR_Reader_Text r).bind fun x=>some (⟨a,x.1⟩,x.2)
def pr0 (r:Rdr):=(oR_Reader_Text r).bind fun x=>pr1 x.1 x.2
theorem pr1_rd (a:List UInt8):Rdx (pr1 a) (pSeq pText fun s=>fun b=>.inr (⟨a,s⟩,b)):=Rdx.seq (g:=fun x r=>some ((⟨a,x⟩:api_Pair),r)) text_rd text_err text_shr fun s=>Rdx.ret (⟨a,s⟩:api_Pair)
theorem pr0_rd:Rdx pr0 pPair:=by
 have e:pPair=pSeq pText fun a=>pSeq pText fun s=>fun b=>.inr (⟨a,s⟩,b):=by
  unfold pPair
  simp only [pRep,pseq_assoc,pseq_ret]
  rfl
 rw [e]
 exact Rdx.seq (g:=fun x r=>pr1 x r) text_rd text_err text_shr fun a=>pr1_rd a
def se2 (a b:Int) (r:Rdr):Option (api_Sess × Rdr):=(oR_Reader_Answer r).bind fun x=>some (⟨a,b,x.1⟩,x.2)
def se1 (a:Int) (r:Rdr):=(oR_Reader_Int r).bind fun x=>se2 a x.1 x.2
def se0 (r:Rdr):=(oR_Reader_Int r).bind fun x=>se1 x.1 x.2
theorem se2_rd (a b:Int):Rdx (se2 a b) (pSeq pAns fun s=>fun r=>.inr (⟨a,b,s⟩,r)):=Rdx.seq (g:=fun x r=>some ((⟨a,b,x⟩:api_Sess),r)) ans_rd ans_err ans_shr fun s=>Rdx.ret (⟨a,b,s⟩:api_Sess)
theorem se1_rd (a:Int):Rdx (se1 a) (pSeq pNum fun b=>pSeq pAns fun s=>fun r=>.inr (⟨a,b,s⟩,r)):=Rdx.seq (g:=fun x r=>se2 a x r) int_rd num_err num_shr fun b=>se2_rd a b
theorem se0_rd:Rdx se0 pSess:=by
 have e:pSess=pSeq pNum fun a=>pSeq pNum fun b=>pSeq pAns fun s=>fun r=>.inr (⟨a,b,s⟩,r):=by
  unfold pSess
  simp only [pRep,pseq_assoc,pseq_ret]
  rfl
 rw [e]
 exact Rdx.seq (g:=fun x r=>se1 x r) int_rd num_err num_shr fun a=>se1_rd a
abbrev zz:Int × Rdr:=(0,⟨[],0⟩)
def im5 (x:api_Image) (r:Rdr):Option (api_Image × Rdr):=(oR_MayImage x).bind fun z=>cond (!z) ((oR_Reader_Fail 2 r).bind fun y=>some (x,y)) (some (x,r))
def im4 (a b:Int) (ps:List api_Pair) (d:Int) (r:Rdr):=(oR_Reader_Image_L3 zz zz (⟨[],0⟩,[]) (d,r,[])).bind fun y=>im5 ⟨a,b,ps,y.2⟩ y.1
def im3 (a b:Int) (ps:List api_Pair) (r:Rdr):=(oR_Reader_Count 4 r).bind fun y=>im4 a b ps y.1 y.2
def im2 (a b:Int) (c:Int) (r:Rdr):=(oR_Reader_Image_L1 zz zz (c,r,[])).bind fun y=>im3 a b y.2 y.1
def im1 (a b:Int) (r:Rdr):=(oR_Reader_Count 8 r).bind fun y=>im2 a b y.1 y.2
def im0 (a:Int) (r:Rdr):=(oR_Reader_Int r).bind fun y=>im1 a y.1 y.2
theorem im_is:oR_Reader_Image=fun r=>(oR_Reader_Int r).bind fun y=>im0 y.1 y.2:=rfl
theorem im5_rd (x:api_Image) (h1:x.Pairs.length≤8) (h2:x.Sess.length≤4):Rdx (im5 x) (pChk rightJ x):=chk_rd x _ _ (mayImage_plain x (by omega) (by omega))
theorem l1_rd (a b:Int) (c:Nat) (hc:c≤8) {g:List api_Pair→Rdr→Option (api_Image × Rdr)} {q:List api_Pair→Pr api_Image} (k:∀ l,l.length≤c→Rdx (g l) (q l)):Rdx (fun r=>(oR_Reader_Image_L1 zz zz ((c:Int),r,[])).bind fun y=>g y.2 y.1) (pSeq (pRep pPair c) q):=by
 have h0:∀ (k:Nat) b e acc,(k=0∨e≠0)→oR_Reader_Image_L1_s zz zz ((k:Int),⟨b,e⟩,acc)=some (.inr (⟨b,e⟩,acc)):=fun k b e acc h=>by
  unfold oR_Reader_Image_L1_s oR_Reader_Image_J0
  simp only
  by_cases hk:k=0
  ·rw [dec_f (by omega)]; rfl
  ·rw [dec_t (by omega),beq_f (h.resolve_left hk)]; rfl
 refine Rdx.loop c pair_shr pair_err (fun b e he=>?_) (fun b hb=>?_) k
 ·unfold oR_Reader_Image_L1
  have:KK=(KK - 1)+1:=by have:=KK_big; omega
  rw [this]
  simp only [loopX,h0 c b e [] (.inr he)]
 ·have:=rloop (p:=pPair) (oR_Reader_Image_L1_s zz zz) pair_shr pair_err h0 (fun k b acc hb hk ha=>by
   have hp:=(pr0_rd b 0 hb).2
   have e:oR_Reader_Image_L1_s zz zz (((k+1:Nat):Int),⟨b,0⟩,acc)=(pr0 ⟨b,0⟩).bind fun y=>some (.inl ((k:Int),y.2,acc ++ [y.1])):=by
    unfold oR_Reader_Image_L1_s oR_Reader_Image_J0 pr0 pr1
    simp only
    rw [dec_t (by omega),beq_t rfl]
    simp only [cond_true,Option.bind_some,isL,Option.bind_assoc]
    congr 1; funext x; congr 1; funext y
    rw [gd_true (by unfold fitsB; simp; omega),wrap_id (by omega) (by omega),show ((k+1:Nat):Int) - 1=(k:Int) by omega]
   rw [e]
   cases hq:pPair b with
   | inl er =>
    rw [hq] at hp
    obtain ⟨x,s,hx,hs⟩:=hp
    exact ⟨x,s,by rw [hx]; rfl,hs⟩
   | inr y =>
    rw [hq] at hp
    simp only at hp ⊢
    rw [hp]
    rfl) c KK b [] (by have:=KK_big; omega) hb (by simp; omega)
  cases hq:pRep pPair c b with
  | inl er =>
   rw [hq] at this
   obtain ⟨l,s,h1,h2,h3⟩:=this
   exact ⟨l,s,h1,by simpa using h2,h3⟩
  | inr y =>
   rw [hq] at this
   simp only [List.nil_append] at this
   exact this
theorem l3_rd (c:Nat) (hc:c≤4) {g:List api_Sess→Rdr→Option (api_Image × Rdr)} {q:List api_Sess→Pr api_Image} (k:∀ l,l.length≤c→Rdx (g l) (q l)):Rdx (fun r=>(oR_Reader_Image_L3 zz zz (⟨[],0⟩,[]) ((c:Int),r,[])).bind fun y=>g y.2 y.1) (pSeq (pRep pSess c) q):=by
 have h0:∀ (k:Nat) b e acc,(k=0∨e≠0)→oR_Reader_Image_L3_s zz zz (⟨[],0⟩,[]) ((k:Int),⟨b,e⟩,acc)=some (.inr (⟨b,e⟩,acc)):=fun k b e acc h=>by
  unfold oR_Reader_Image_L3_s oR_Reader_Image_J2
  simp only
  by_cases hk:k=0
  ·rw [dec_f (by omega)]; rfl
  ·rw [dec_t (by omega),beq_f (h.resolve_left hk)]; rfl
 refine Rdx.loop c sess_shr sess_err (fun b e he=>?_) (fun b hb=>?_) k
 ·unfold oR_Reader_Image_L3
  have:KK=(KK - 1)+1:=by have:=KK_big; omega
  rw [this]
  simp only [loopX,h0 c b e [] (.inr he)]
 ·have:=rloop (p:=pSess) (oR_Reader_Image_L3_s zz zz (⟨[],0⟩,[])) sess_shr sess_err h0 (fun k b acc hb hk ha=>by
   have hp:=(se0_rd b 0 hb).2
   have e:oR_Reader_Image_L3_s zz zz (⟨[],0⟩,[]) (((k+1:Nat):Int),⟨b,0⟩,acc)=(se0 ⟨b,0⟩).bind fun y=>some (.inl ((k:Int),y.2,acc ++ [y.1])):=by
    unfold oR_Reader_Image_L3_s oR_Reader_Image_J2 se0 se1 se2
    simp only
    rw [dec_t (by omega),beq_t rfl]
    simp only [cond_true,Option.bind_some,isL,Option.bind_assoc]
    congr 1; funext x; congr 1; funext y; congr 1; funext z
    rw [gd_true (by unfold fitsB; simp; omega),wrap_id (by omega) (by omega),show ((k+1:Nat):Int) - 1=(k:Int) by omega]
   rw [e]
   cases hq:pSess b with
   | inl er =>
    rw [hq] at hp
    obtain ⟨x,s,hx,hs⟩:=hp
    exact ⟨x,s,by rw [hx]; rfl,hs⟩
   | inr y =>
    rw [hq] at hp
    simp only at hp ⊢
    rw [hp]
    rfl) c KK b [] (by have:=KK_big; omega) hb (by simp; omega)
  cases hq:pRep pSess c b with
  | inl er =>
   rw [hq] at this
   obtain ⟨l,s,h1,h2,h3⟩:=this
   exact ⟨l,s,h1,by simpa using h2,h3⟩
  | inr y =>
   rw [hq] at this
   simp only [List.nil_append] at this
   exact this
theorem im4_rd (a b:Int) (ps:List api_Pair) (hps:ps.length≤8) (d:Nat) (hd:d≤4):Rdx (im4 a b ps (d:Int)) (pSeq (pRep pSess d) fun ss=>pChk rightJ ⟨a,b,ps,ss⟩) :=
 l3_rd (g:=fun l r=>im5 ⟨a,b,ps,l⟩ r) d hd fun l hl=>im5_rd ⟨a,b,ps,l⟩ hps (by simp only; omega)
theorem im3_rd (a b:Int) (ps:List api_Pair) (hps:ps.length≤8):Rdx (im3 a b ps) (pSeq (pCnt 4) fun d=>pSeq (pRep pSess d.toNat) fun ss=>pChk rightJ ⟨a,b,ps,ss⟩) :=
 Rdx.cnt (g:=fun n r=>im4 a b ps n r) (q:=fun d=>pSeq (pRep pSess d.toNat) fun ss=>pChk rightJ ⟨a,b,ps,ss⟩) 4 fun n hn=>by
  simp only [Int.toNat_natCast]
  exact im4_rd a b ps hps n hn
theorem im2_rd (a b:Int) (c:Nat) (hc:c≤8):Rdx (im2 a b (c:Int)) (pSeq (pRep pPair c) fun ps=>pSeq (pCnt 4) fun d=>pSeq (pRep pSess d.toNat) fun ss=>pChk rightJ ⟨a,b,ps,ss⟩) :=
 l1_rd a b (g:=fun l r=>im3 a b l r) c hc fun l hl=>im3_rd a b l (by omega)
theorem im1_rd (a b:Int):Rdx (im1 a b) (pSeq (pCnt 8) fun c=>pSeq (pRep pPair c.toNat) fun ps=>pSeq (pCnt 4) fun d=>pSeq (pRep pSess d.toNat) fun ss=>pChk rightJ ⟨a,b,ps,ss⟩) :=
 Rdx.cnt (g:=fun n r=>im2 a b n r) (q:=fun c=>pSeq (pRep pPair c.toNat) fun ps=>pSeq (pCnt 4) fun d=>pSeq (pRep pSess d.toNat) fun ss=>pChk rightJ ⟨a,b,ps,ss⟩) 8 fun n hn=>by
  simp only [Int.toNat_natCast]
  exact im2_rd a b n hn
theorem im0_rd (a:Int):Rdx (im0 a) (pSeq pNum fun b=>pSeq (pCnt 8) fun c=>pSeq (pRep pPair c.toNat) fun ps=>pSeq (pCnt 4) fun d=>pSeq (pRep pSess d.toNat) fun ss=>pChk rightJ ⟨a,b,ps,ss⟩) :=
 Rdx.seq (g:=fun x r=>im1 a x r) int_rd num_err num_shr fun b=>im1_rd a b
theorem img_rd:Rdx oR_Reader_Image pImg:=by
 have e:pImg=pSeq pNum fun a=>pSeq pNum fun b=>pSeq (pCnt 8) fun c=>pSeq (pRep pPair c.toNat) fun ps=>pSeq (pCnt 4) fun d=>pSeq (pRep pSess d.toNat) fun ss=>pChk rightJ ⟨a,b,ps,ss⟩:=by
  unfold pImg
  rw [show pRep pNum 2=pSeq pNum fun x=>pSeq (pSeq pNum fun y=>pSeq (fun b=>.inr ([],b)) fun l b=>.inr (y :: l,b)) fun l b=>.inr (x :: l,b) from rfl]
  simp only [pseq_assoc,pseq_ret]
  rfl
 rw [e,im_is]
 exact Rdx.seq (g:=fun x r=>im0 x r) int_rd num_err num_shr fun a=>im0_rd a
end Go.Proofs.YtgahmammhclobaaGreat
