import Derived.Test.YtgahmammhclobaaGreatKc
import Derived.Test.YtgahmammhclobaaGreatG4
import Derived.Test.YtgahmammhclobaaGreatXrCodecTells
set_option linter.all false
set_option linter.unusedSimpArgs false
set_option maxRecDepth 100000
namespace Go.Proofs.YtgahmammhclobaaGreat
theorem known9:osmosislaw9_known=some true:=by decide +kernel
theorem few400 (b:List UInt8) (h:b.length < 1000000000):oH_Few_2 b 400=some (b.take 400):=by
  unfold oH_Few_2
  by_cases c:400 < b.length
  · rw [dec_t (by omega),cond_true,show (400:Int)=((400:Nat):Int) from rfl,slI_to b 400 (by omega),Option.bind_some,gd_fits1 (by simp; omega)]
  · rw [dec_f (by omega),cond_false,gd_fits1 (by omega),List.take_of_length_le (by omega)]
theorem turn_some (w:List UInt8) (hw:w.length < 1000000) (t:Int) (v:UInt8) (c:Int) (a b d e:List UInt8) (s:Int):∃ w',osmosislaw9_CodecTells_J2 w t v c a b d e s=some w'∧w'.length=w.length:=by
  unfold osmosislaw9_CodecTells_J2 osmosislaw9_CodecTells_J1
  by_cases hl:w.length > 0
  · rw [dec_t (by omega),cond_true,Option.bind_some]
    cases (Int.tmod t 3 == 0)
    · exact ⟨w,rfl,rfl⟩
    · obtain ⟨k,k1,k2⟩:=pick_nat (IntKind.i64.wrap (Int.tdiv t 3)) w.length hl (by omega)
      rw [cond_true,k1,Option.bind_some,getI_at k2,Option.bind_some,Option.bind_some]
      exact ⟨_,rfl,by rw [List.length_set]⟩
  · rw [dec_f (by omega)]
    exact ⟨w,rfl,rfl⟩
theorem cut_some (w:List UInt8) (hw:w.length < 1000000) (t:Int) (v:UInt8) (c:Int) (a b d e:List UInt8) (s:Int):∃ w',osmosislaw9_CodecTells_J3 c w t v a b d e s=some w'∧w'.length≤w.length:=by
  unfold osmosislaw9_CodecTells_J3
  cases (Int.tmod c 3 == 0)
  · exact ⟨w,rfl,Nat.le_refl _⟩
  · rw [cond_true,wrap_id (x:=(w.length:Int)+1) (by omega) (by omega),show (w.length:Int)+1=((w.length+1:Nat):Int) by omega]
    obtain ⟨k,k1,k2⟩:=pick_nat (IntKind.i64.wrap (Int.tdiv c 3)) (w.length+1) (by omega) (by omega)
    rw [k1,Option.bind_some,slI_to w k (by omega)]
    exact ⟨_,rfl,by rw [List.length_take]; omega⟩
theorem ans_eqv (x y:api_Answer):(x.Why=y.Why∧x.Value=y.Value)↔x=y:=by
  obtain ⟨a,b⟩:=x; obtain ⟨a',b'⟩:=y
  simp
instance:DecidableEq api_Answer:=fun x y=>decidable_of_iff _ (ans_eqv x y)
theorem ans_beq (x y:api_Answer):(x.Why == y.Why && (x.Value == y.Value && true))=decide (x=y):=by
  rw [Bool.eq_iff_iff,decide_eq_true_eq]
  obtain ⟨a,b⟩:=x; obtain ⟨a',b'⟩:=y
  simp
theorem j4_ok (w:List UInt8) (hw:w.length < 1000000) (t:Int) (v:UInt8) (c:Int) (a b d e:List UInt8) (s:Int) :
    ∃ x y,oR_Reader_Req ⟨w,0⟩=some x∧codec_ReadReq w=some y∧osmosislaw9_CodecTells_J4 y x t v c w a b d e s=some (.inr ()):=by
  have h1:=(req_rd w 0 (by omega)).2
  have h2:=readReq_plain w (by omega)
  cases hp:pReq w with
  | inl er =>
    have he:er≠0:=by rcases req_err _ _ hp with rfl | rfl <;> omega
    rw [hp] at h1 h2
    obtain ⟨x,r,h1,_⟩:=h1
    refine ⟨_,_,h1,h2, ?_⟩
    unfold osmosislaw9_CodecTells_J4
    simp only
    rw [bne_f rfl,cond_false,beq_f he,cond_false,bne_t he,cond_true]
    rfl
  | inr y =>
    obtain ⟨x,r⟩:=y
    rw [hp] at h1 h2
    refine ⟨_,_,h1,h2, ?_⟩
    unfold osmosislaw9_CodecTells_J4
    simp only
    rw [bne_f rfl,cond_false,beq_t rfl,cond_true,req_beq,dec_t rfl]
    simp
theorem j5_ok (w:List UInt8) (hw:w.length < 1000000) (t:Int) (v:UInt8) (c:Int) (a b d e:List UInt8) (s:Int) :
    ∃ x y,oR_Reader_Answer ⟨w,0⟩=some x∧codec_ReadAnswer w=some y∧osmosislaw9_CodecTells_J5 y x t v c w a b d e s=some (.inr ()):=by
  have h1:=(ans_rd w 0 (by omega)).2
  have h2:=readAns_plain w (by omega)
  cases hp:pAns w with
  | inl er =>
    have he:er≠0:=by rcases ans_err _ _ hp with rfl | rfl <;> omega
    rw [hp] at h1 h2
    obtain ⟨x,r,h1,_⟩:=h1
    refine ⟨_,_,h1,h2, ?_⟩
    unfold osmosislaw9_CodecTells_J5
    simp only
    rw [bne_f rfl,cond_false,beq_f he,cond_false,bne_t he,cond_true]
    rfl
  | inr y =>
    obtain ⟨x,r⟩:=y
    rw [hp] at h1 h2
    refine ⟨_,_,h1,h2, ?_⟩
    unfold osmosislaw9_CodecTells_J5
    simp only
    rw [bne_f rfl,cond_false,beq_t rfl,cond_true,ans_beq,dec_t rfl]
    simp
theorem seq_post' {α β:Type} {P:β→Prop} {p:Pr α} {q:α→Pr β} (hq:∀ x b y r,q x b=.inr (y,r)→P y):∀ b y r,pSeq p q b=.inr (y,r)→P y:=by
  intro b y r h
  unfold pSeq at h
  split at h
  · cases h
  · exact hq _ _ _ _ h
theorem chk_post' {α:Type} (c:α→Bool) (x:α):∀ b y r,pChk c x b=.inr (y,r)→c y=true:=by
  intro b y r h
  unfold pChk at h
  split at h
  · rename_i hc
    simp only [Sum.inr.injEq,Prod.mk.injEq] at h
    rw [← h.1]
    exact hc
  · cases h
theorem img_ok':∀ b x r,pImg b=.inr (x,r)→rightJ x=true :=
  seq_post' fun _=>seq_post' fun _=>seq_post' fun _=>seq_post' fun _=>seq_post' fun _=>chk_post' _ _
theorem osmosislaw9_CodecTells_true (x0:List UInt8) (x1:oH_RawOp) (x2:Int) (x3:Int) (x4:Int) (x5:Int) (x6:Int) (x7:List oH_RawOp) (x8:List UInt8) (x9:Int) (x10:UInt8) (x11:Int) (o0:(okL okT) x0) (o1:ok_oH_RawOp x1) (o2:okI x2) (o3:okI x3) (o4:okI x4) (o5:okI x5) (o6:okI x6) (o7:(okL ok_oH_RawOp) x7) (o8:(okL okT) x8) (o9:okI x9) (o10:okT x10) (o11:okI x11) (hb:(bkL bk1) x0+bk_oH_RawOp x1+bk1 x2+bk1 x3+bk1 x4+bk1 x5+bk1 x6+(bkL bk_oH_RawOp) x7+(bkL bk1) x8+bk1 x9+bk1 x10+bk1 x11≤1048576):osmosislaw9_CodecTells x0 x1 x2 x3 x4 x5 x6 x7 x8 x9 x10 x11=some true:=by
  have l0:x0.length≤1048576:=by have:=bkL_len (bk:=bk1 (α:=UInt8)) (fun x=>by unfold bk1; omega) x0; omega
  have l8:x8.length≤1048576:=by have:=bkL_len (bk:=bk1 (α:=UInt8)) (fun x=>by unfold bk1; omega) x8; omega
  obtain ⟨q,hq⟩:=req_some x1
  obtain ⟨w,hw⟩:=pick_any x2 15 (by omega) (by omega)
  obtain ⟨v,hv⟩:=value_some x3
  obtain ⟨y,hy,y1,y2⟩:=image_some x4 x5 x7 x6
  have hw:oH_Pick x2 15=some w:=hw
  unfold osmosislaw9_CodecTells
  rw [hq,Option.bind_some,hw,Option.bind_some,hv,Option.bind_some,hy,Option.bind_some]
  have p1:=layReq_plain x0 q (by omega)
  have p2:=layAns_plain x0 ⟨IntKind.i64.wrap (w - 2),v⟩ (by omega)
  have p3:=layImage_plain x0 y (by omega) (by omega) (by omega)
  rw [rlayReq_plain x0 q (by omega),Option.bind_some,rlayAns_plain x0 ⟨IntKind.i64.wrap (w - 2),v⟩ (by omega),Option.bind_some,rlayImage_plain x0 y (by omega) (by omega) (by omega),Option.bind_some]
  have j0:osmosislaw9_CodecTells_J0 x0 q (if rightQ q=true then x0 ++ eReq q else []) w v (if rightA ⟨IntKind.i64.wrap (w - 2),v⟩=true then x0 ++ eAns ⟨IntKind.i64.wrap (w - 2),v⟩ else []) y (if rightJ y=true then x0 ++ eImg y else []) x8 x9 x10 x11=some (.inr ()):=by
    unfold osmosislaw9_CodecTells_J0
    rw [p1,Option.bind_some,layAns_plain x0 _ (by omega),Option.bind_some,p3,Option.bind_some,rightReq_plain,Option.bind_some,mayReq_plain,Option.bind_some,rightAns_plain,Option.bind_some,mayAns_plain,Option.bind_some,rightImage_plain y (by omega) (by omega),Option.bind_some,mayImage_plain y (by omega) (by omega),Option.bind_some]
    simp
  rw [j0,Option.bind_some,rlayReq_plain [] q (by simp),rlayAns_plain [] _ (by simp),rlayImage_plain [] y (by simp) (by omega) (by omega),known9]
  simp only [isL,cond_false,Option.bind_some,List.nil_append]
  have lq:(if rightQ q=true then eReq q else []).length≤1000:=by
    split
    · rename_i h; have:=eReq_len h; omega
    · simp
  have la:(if rightA ⟨IntKind.i64.wrap (w - 2),v⟩=true then eAns ⟨IntKind.i64.wrap (w - 2),v⟩ else []).length≤1000:=by
    split
    · rename_i h; have:=eAns_len h; omega
    · simp
  have li:(if rightJ y=true then eImg y else []).length≤1000:=by
    split
    · rename_i h; have:=(eImg_parts h).2.2; omega
    · simp
  generalize (if rightQ q=true then eReq q else [])=z1 at *
  generalize (if rightA ⟨IntKind.i64.wrap (w - 2),v⟩=true then eAns ⟨IntKind.i64.wrap (w - 2),v⟩ else [])=z2 at *
  generalize (if rightJ y=true then eImg y else [])=z3 at *
  have step:∀ i:Nat,i < 4→osmosislaw9_CodecTells_L6_s z1 z2 z3 x8 x9 x10 x11 (i:Int)=some (.inl ((i+1:Nat):Int)):=by
    intro i hi
    have hz:∃ z,getI [z1,z2,z3,x8] (i:Int)=some z∧z.length < 1000000000:=by
      rw [getI_at (by simpa using hi)]
      refine ⟨_,rfl, ?_⟩
      have:i=0∨i=1∨i=2∨i=3:=by omega
      rcases this with rfl | rfl | rfl | rfl
      · show z1.length < _; omega
      · show z2.length < _; omega
      · show z3.length < _; omega
      · show x8.length < _; omega
    obtain ⟨z,z1',z2'⟩:=hz
    unfold osmosislaw9_CodecTells_L6_s
    rw [dec_t (by omega),cond_true,z1',Option.bind_some,few400 z z2',Option.bind_some]
    obtain ⟨t1,h1,n1⟩:=turn_some (z.take 400) (by rw [List.length_take]; omega) x9 x10 x11 z1 z2 z3 x8 (i:Int)
    rw [List.length_take] at n1
    obtain ⟨t2,h2,n2⟩:=cut_some t1 (by omega) x9 x10 x11 z1 z2 z3 x8 (i:Int)
    have nt:t2.length < 1000000:=by omega
    obtain ⟨r1,r2,h3,h4,h5⟩:=j4_ok t2 nt x9 x10 x11 z1 z2 z3 x8 (i:Int)
    obtain ⟨r3,r4,h6,h7,h8⟩:=j5_ok t2 nt x9 x10 x11 z1 z2 z3 x8 (i:Int)
    rw [h1,Option.bind_some,h2,Option.bind_some,h3,Option.bind_some,h4,Option.bind_some,h5,Option.bind_some]
    simp only [isL,cond_false]
    rw [h6,Option.bind_some,h7,Option.bind_some,h8,Option.bind_some]
    simp only [isL,cond_false]
    have g1:=(img_rd t2 0 (by omega)).2
    have g2:=readImage_plain t2 (by omega)
    cases hp:pImg t2 with
    | inl er =>
      have he:er≠0:=by rcases img_err _ _ hp with rfl | rfl <;> omega
      rw [hp] at g1 g2
      obtain ⟨x,r,g1,_⟩:=g1
      rw [g1,Option.bind_some,g2,Option.bind_some]
      simp only
      rw [bne_f rfl,cond_false,beq_f he,cond_false,bne_t he,cond_true,noneImage_plain,wrap_id (by omega) (by omega),succ_cast]
      rfl
    | inr u =>
      obtain ⟨x,r⟩:=u
      have hx:=rightJ_small (img_ok' _ _ _ hp)
      rw [hp] at g1 g2
      simp only at g1 g2
      rw [g1,Option.bind_some,g2,Option.bind_some]
      simp only
      rw [bne_f rfl,cond_false,beq_t rfl,cond_true,sameI x x (by omega) (by omega),dec_t ⟨rfl,rfl,rfl,rfl⟩,wrap_id (by omega) (by omega),succ_cast]
      simp
  have loop:osmosislaw9_CodecTells_L6 z1 z2 z3 x8 x9 x10 x11 0=some (.inr ()):=by
    unfold osmosislaw9_CodecTells_L6
    refine loop_run (fun i=>(i:Int)) 4 _ step ?_ (by omega)
    unfold osmosislaw9_CodecTells_L6_s
    rfl
  rw [loop]
  rfl
end Go.Proofs.YtgahmammhclobaaGreat
