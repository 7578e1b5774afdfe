import Derived.Test.YtgahmammhclobaaGreatK4
set_option linter.all false
set_option linter.unusedSimpArgs false
namespace Go.Proofs.YtgahmammhclobaaGreat
def zeroM:api_Image:=⟨0,0,[],[]⟩
theorem pairs_loop (x4:Int × codec_reader) (x2 x3:Int) (n:Nat) (hx:x4.1=(n:Int)) (hn:n≤8) (b:List UInt8) (hb:b.length < 600000000) :
  (∀ e,e≠0→∃ l,codec_ReadImage_L0 x4 x2 x3 (0,⟨b,e⟩,[])=some (⟨b,e⟩,l)∧l.length=n) ∧
  match pRep pPair n b with
   | .inl e=>∃ l,codec_ReadImage_L0 x4 x2 x3 (0,⟨b,0⟩,[])=some (⟨[],e⟩,l)∧l.length=n
   | .inr (l,r)=>codec_ReadImage_L0 x4 x2 x3 (0,⟨b,0⟩,[])=some (⟨r,0⟩,l):=by
 obtain ⟨p1,p2⟩:=sticky (E:=Unit) (p:=pPair) n (by omega) (codec_ReadImage_L0_s x4 x2 x3) b.length (by omega) pair_shr pair_err
  (fun i b' acc hi hb' ha=>by
   have hp:=pairR_plain ⟨b',0⟩ (by simp only; omega) rfl
   unfold codec_ReadImage_L0_s
   simp only
   rw [hx,dec_t (by omega),cond_true,hp,Option.bind_some]
   simp only
   cases pPair b' with
   | inl e =>
    simp only
    rw [gd_true (by unfold fitsB; simp; omega),wrap_id (by omega) (by omega),succ_cast]
    exact ⟨_,rfl⟩
   | inr y =>
    obtain ⟨x,r⟩:=y
    simp only
    rw [gd_true (by unfold fitsB; simp; omega),wrap_id (by omega) (by omega),succ_cast])
  (fun i b' e acc hi hb' he ha=>by
   have hp:=pairR_err ⟨b',e⟩ he
   unfold codec_ReadImage_L0_s
   simp only
   rw [hx,dec_t (by omega),cond_true,hp,Option.bind_some]
   simp only
   rw [gd_true (by unfold fitsB; simp; omega),wrap_id (by omega) (by omega),succ_cast]
   exact ⟨_,rfl⟩)
  (fun r acc=>by
   unfold codec_ReadImage_L0_s
   simp only
   rw [hx,dec_f (by omega),cond_false])
 have q1:=fun e he=>p1 n KK b e [] (Nat.le_refl _) (Nat.le_refl _) he (by simp) (by have:=KK_big; omega)
 have q2:=p2 n KK b [] (Nat.le_refl _) (Nat.le_refl _) (by simp) (by have:=KK_big; omega)
 rw [Nat.sub_self] at q1 q2
 refine ⟨q1, ?_⟩
 cases hq:pRep pPair n b with
 | inl e=>rw [hq] at q2; exact q2
 | inr y =>
  obtain ⟨l,r⟩:=y
  rw [hq] at q2
  simp only [List.nil_append] at q2
  exact q2
theorem sess_loop (x13:Int × codec_reader) (x2 x3:Int) (x12:codec_reader × List api_Pair) (n:Nat) (hx:x13.1=(n:Int)) (hn:n≤4) (b:List UInt8) (hb:b.length < 600000000) :
  (∀ e,e≠0→∃ l,codec_ReadImage_L1 x13 x2 x3 x12 (0,⟨b,e⟩,[])=some (⟨b,e⟩,l)∧l.length=n) ∧
  match pRep pSess n b with
   | .inl e=>∃ l,codec_ReadImage_L1 x13 x2 x3 x12 (0,⟨b,0⟩,[])=some (⟨[],e⟩,l)∧l.length=n
   | .inr (l,r)=>codec_ReadImage_L1 x13 x2 x3 x12 (0,⟨b,0⟩,[])=some (⟨r,0⟩,l):=by
 obtain ⟨p1,p2⟩:=sticky (E:=Unit) (p:=pSess) n (by omega) (codec_ReadImage_L1_s x13 x2 x3 x12) b.length (by omega) sess_shr sess_err
  (fun i b' acc hi hb' ha=>by
   have hp:=sessR_plain ⟨b',0⟩ (by simp only; omega) rfl
   unfold codec_ReadImage_L1_s
   simp only at hp ⊢
   rw [hx,dec_t (by omega),cond_true]
   cases hq:pSess b' with
   | inl e =>
    rw [hq] at hp
    obtain ⟨x,hp⟩:=hp
    rw [hp,Option.bind_some]
    simp only
    rw [gd_true (by unfold fitsB; simp; omega),wrap_id (by omega) (by omega),succ_cast]
    exact ⟨_,rfl⟩
   | inr y =>
    obtain ⟨x,r⟩:=y
    rw [hq] at hp
    simp only at hp ⊢
    rw [hp,Option.bind_some]
    simp only
    rw [gd_true (by unfold fitsB; simp; omega),wrap_id (by omega) (by omega),succ_cast])
  (fun i b' e acc hi hb' he ha=>by
   have hp:=sessR_err ⟨b',e⟩ (by simp only; omega) he
   unfold codec_ReadImage_L1_s
   simp only
   rw [hx,dec_t (by omega),cond_true,hp,Option.bind_some]
   simp only
   rw [gd_true (by unfold fitsB; simp; omega),wrap_id (by omega) (by omega),succ_cast]
   exact ⟨_,rfl⟩)
  (fun r acc=>by
   unfold codec_ReadImage_L1_s
   simp only
   rw [hx,dec_f (by omega),cond_false])
 have q1:=fun e he=>p1 n KK b e [] (Nat.le_refl _) (Nat.le_refl _) he (by simp) (by have:=KK_big; omega)
 have q2:=p2 n KK b [] (Nat.le_refl _) (Nat.le_refl _) (by simp) (by have:=KK_big; omega)
 rw [Nat.sub_self] at q1 q2
 refine ⟨q1, ?_⟩
 cases hq:pRep pSess n b with
 | inl e=>rw [hq] at q2; exact q2
 | inr y =>
  obtain ⟨l,r⟩:=y
  rw [hq] at q2
  simp only [List.nil_append] at q2
  exact q2
theorem img_end (x2 x3:Int) (x12:codec_reader × List api_Pair) (s:List UInt8) (l:List api_Sess) (h1:x12.2.length≤8) (h2:l.length≤4):codec_ReadImage_J3 (⟨s,0⟩,l) x2 x3 x12=some (if rightJ ⟨x2,x3,x12.2,l⟩ then ⟨s,0⟩ else ⟨s,2⟩):=by
 unfold codec_ReadImage_J3 codec_ReadImage_J2
 simp only
 rw [beq_t rfl,cond_true,rightImage_plain _ (by simp only; omega) (by simp only; omega),Option.bind_some]
 cases rightJ ⟨x2,x3,x12.2,l⟩ <;> rfl
theorem img_fail (x2 x3:Int) (x12:codec_reader × List api_Pair) (s:List UInt8) (e:Int) (he:e≠0) (l:List api_Sess):codec_ReadImage_J3 (⟨s,e⟩,l) x2 x3 x12=some ⟨s,e⟩:=by
 unfold codec_ReadImage_J3 codec_ReadImage_J2
 simp only
 rw [beq_f he]
 rfl
theorem img_lost (x2 x3:Int) (b:List UInt8) (e:Int) (he:e≠0) (hb:b.length < 600000000) (x12:codec_reader × List api_Pair) (h12:x12.1=⟨b,e⟩) :
  ((codec_reader_count 4 x12.1).bind fun (x13:Int × codec_reader)=>(codec_ReadImage_L1 x13 x2 x3 x12 (0,x13.2,[])).bind fun (x19:(codec_reader × List api_Sess))=>(codec_ReadImage_J3 x19 x2 x3 x12).bind fun (x22:codec_reader)=>cond (x22.e != 0) (some ((⟨0,0,[],[]⟩:api_Image),([]:List UInt8),x22.e)) (some ((⟨x2,x3,x12.2,x19.2⟩:api_Image),x22.b,0)))=some (zeroM,[],e):=by
 have h4:=count_err 4 x12.1 (by rw [h12]; simp only; omega) (by rw [h12]; exact he)
 rw [show ((4:Nat):Int)=4 from rfl] at h4
 rw [h4,Option.bind_some,h12]
 obtain ⟨l,l1,_⟩:=(sess_loop (0,⟨b,e⟩) x2 x3 x12 0 rfl (by omega) b hb).1 e he
 simp only
 rw [l1,Option.bind_some,img_fail _ _ _ _ _ he,Option.bind_some]
 simp only
 rw [bne_t he]
 rfl
theorem readImage_plain (b:List UInt8) (hb:b.length < 600000000):codec_ReadImage b=some (match pImg b with
  | .inl e=>(zeroM,[],e)
  | .inr (x,s)=>(x,s,0)):=by
 unfold codec_ReadImage pImg
 have hx:=numbers_plain 2 ⟨b,0⟩ (by omega) (by simp only; omega)
 rw [show ((2:Nat):Int)=2 from rfl,if_pos rfl] at hx
 rw [hx]
 cases h1:pRep pNum 2 b with
 | inl e =>
  have he:e≠0:=by rcases rep_err num_err 2 _ _ h1 with rfl | rfl <;> omega
  rw [pSeq_l h1]
  simp only [Option.bind_some]
  rw [show getI (List.replicate 2 (0:Int)) 0=some 0 from rfl,Option.bind_some,show getI (List.replicate 2 (0:Int)) 1=some 0 from rfl,Option.bind_some]
  have h8:=count_err 8 ⟨[],e⟩ (by simp) he
  rw [show ((8:Nat):Int)=8 from rfl] at h8
  rw [h8,Option.bind_some]
  obtain ⟨l,l1,_⟩:=(pairs_loop (0,⟨[],e⟩) 0 0 0 rfl (by omega) [] (by simp)).1 e he
  simp only
  rw [l1,Option.bind_some]
  exact img_lost 0 0 [] e he (by simp) _ rfl
 | inr y =>
  obtain ⟨n,c⟩:=y
  have hl:=rep_len h1
  have hc:=rep_shr num_shr 2 _ _ _ h1
  have s0:=getI_3 (0:Int) hl 0 (by omega)
  have s1:=getI_3 (0:Int) hl 1 (by omega)
  rw [show ((0:Nat):Int)=0 from rfl] at s0
  rw [show ((1:Nat):Int)=1 from rfl] at s1
  rw [pSeq_r h1]
  simp only [Option.bind_some]
  rw [s0,Option.bind_some,s1,Option.bind_some]
  generalize n.getD 0 0=a0
  generalize n.getD 1 0=a1
  cases h2:pCnt 8 c with
  | inl e =>
   have he:e≠0:=by rcases cnt_err 8 _ _ h2 with rfl | rfl <;> omega
   rw [pSeq_l h2]
   obtain ⟨d,h8,hd⟩:=count_bad 8 ⟨c,0⟩ (by simp only; omega) rfl h2
   rw [show ((8:Nat):Int)=8 from rfl] at h8
   simp only at hd
   rw [h8,Option.bind_some]
   obtain ⟨l,l1,_⟩:=(pairs_loop (0,⟨d,e⟩) a0 a1 0 rfl (by omega) d (by omega)).1 e he
   simp only
   rw [l1,Option.bind_some]
   exact img_lost a0 a1 d e he (by omega) _ rfl
  | inr y =>
   obtain ⟨k,d⟩:=y
   have hk:=cnt_ok h2
   have hd:=cnt_shr 8 _ _ _ h2
   rw [pSeq_r h2]
   have h8:=count_good 8 ⟨c,0⟩ (by simp only; omega) rfl h2
   rw [show ((8:Nat):Int)=8 from rfl] at h8
   rw [h8,Option.bind_some]
   obtain ⟨k,rfl⟩:∃ k':Nat,k=(k':Int):=⟨k.toNat,by omega⟩
   have hp:=(pairs_loop ((k:Int),⟨d,0⟩) a0 a1 k rfl (by omega) d (by omega)).2
   rw [Int.toNat_natCast]
   cases h3:pRep pPair k d with
   | inl e =>
    have he:e≠0:=by rcases rep_err pair_err k _ _ h3 with rfl | rfl <;> omega
    rw [h3] at hp
    obtain ⟨l,l1,_⟩:=hp
    rw [pSeq_l h3]
    simp only
    rw [l1,Option.bind_some]
    exact img_lost a0 a1 [] e he (by simp) _ rfl
   | inr y =>
    obtain ⟨ps,f⟩:=y
    rw [h3] at hp
    have hps:=rep_len h3
    have hf:=rep_shr pair_shr k _ _ _ h3
    rw [pSeq_r h3]
    simp only at hp ⊢
    rw [hp,Option.bind_some]
    simp only
    cases h4:pCnt 4 f with
    | inl e =>
     have he:e≠0:=by rcases cnt_err 4 _ _ h4 with rfl | rfl <;> omega
     rw [pSeq_l h4]
     obtain ⟨g,g4,hg⟩:=count_bad 4 ⟨f,0⟩ (by simp only; omega) rfl h4
     rw [show ((4:Nat):Int)=4 from rfl] at g4
     simp only at hg
     rw [g4,Option.bind_some]
     obtain ⟨l,l1,_⟩:=(sess_loop (0,⟨g,e⟩) a0 a1 (⟨f,0⟩,ps) 0 rfl (by omega) g (by omega)).1 e he
     simp only
     rw [l1,Option.bind_some,img_fail _ _ _ _ _ he,Option.bind_some]
     simp only
     rw [bne_t he]
     rfl
    | inr y =>
     obtain ⟨j,g⟩:=y
     have hj:=cnt_ok h4
     have hg:=cnt_shr 4 _ _ _ h4
     rw [pSeq_r h4]
     have g4:=count_good 4 ⟨f,0⟩ (by simp only; omega) rfl h4
     rw [show ((4:Nat):Int)=4 from rfl] at g4
     rw [g4,Option.bind_some]
     obtain ⟨j,rfl⟩:∃ j':Nat,j=(j':Int):=⟨j.toNat,by omega⟩
     have hs:=(sess_loop ((j:Int),⟨g,0⟩) a0 a1 (⟨f,0⟩,ps) j rfl (by omega) g (by omega)).2
     rw [Int.toNat_natCast]
     cases h5:pRep pSess j g with
     | inl e =>
      have he:e≠0:=by rcases rep_err sess_err j _ _ h5 with rfl | rfl <;> omega
      rw [h5] at hs
      obtain ⟨l,l1,_⟩:=hs
      rw [pSeq_l h5]
      simp only
      rw [l1,Option.bind_some,img_fail _ _ _ _ _ he,Option.bind_some]
      simp only
      rw [bne_t he]
      rfl
     | inr y =>
      obtain ⟨ss,t⟩:=y
      rw [h5] at hs
      have hss:=rep_len h5
      rw [pSeq_r h5]
      simp only at hs ⊢
      rw [hs,Option.bind_some,img_end _ _ _ _ _ (by simp only; omega) (by omega),Option.bind_some]
      unfold pChk
      simp only
      cases rightJ ⟨a0,a1,ps,ss⟩ <;> rfl
end Go.Proofs.YtgahmammhclobaaGreat
