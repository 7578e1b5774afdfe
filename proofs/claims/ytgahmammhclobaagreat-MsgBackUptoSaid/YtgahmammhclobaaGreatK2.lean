import Derived.Test.YtgahmammhclobaaGreatN1
import Derived.Test.YtgahmammhclobaaGreatK1
import Derived.Test.YtgahmammhclobaaGreatY5
set_option linter.all false
set_option linter.unusedSimpArgs false
namespace Go.Proofs.YtgahmammhclobaaGreat
theorem put3 (b:List UInt8) (l:List Int) (h:b.length+10 * l.length < 1000000000):nums_Put_3 b l=some (putOf b l):=put_plain b l h
theorem putOf_ok (b:List UInt8) {l:List Int} (h:∀ x ∈ l,okN x):putOf b l=b ++ l.flatMap eN:=by
 unfold putOf
 rw [if_pos (List.all_eq_true.2 fun x hx=>by have:=h x hx; simp [mayN]; exact this)]
 rfl
theorem eT_len (s:List UInt8) (h:okS s):(eT s).length≤s.length+9:=by
 have:=encN_le9 h
 unfold eT
 rw [List.length_append]
 omega
theorem eTs_take (l:List (List UInt8)) (i:Nat):((l.take i).flatMap eT).length≤(l.flatMap eT).length:=by
 rw [← List.take_append_drop i l,List.flatMap_append,List.length_append,List.take_append_drop]
 omega
theorem text_loop (b:List UInt8) (l:List (List UInt8)) (h:b.length+(l.flatMap eT).length < 900000000) (hl:l.length < 1000000000) (f:Int × List UInt8→Option ((Int × List UInt8) ⊕ (List UInt8)))
  (hf:∀ s5,f s5=cond (decide (s5.1 < (l.length:Int))) ((getI l s5.1).bind fun (x6:List UInt8)=>(nums_Put_3 s5.2 ([(x6.length:Int)])).bind fun (x7:List UInt8)=>gd (fitsB 1 (x7 ++ x6).length) (some (.inl ((IntKind.i64.wrap (s5.1+1)),(x7 ++ x6))))) (some (.inr s5.2))) :
  loopX f KK (0,b)=some (b ++ l.flatMap eT):=by
 have e0:((0:Int),b)=(((0:Nat):Int),b ++ (l.take 0).flatMap eT):=by simp
 rw [e0]
 refine loop_run (fun i=>((i:Int),b ++ (l.take i).flatMap eT)) l.length _ (fun i hi=>?_) ?_ (by omega)
 ·have h5:(l.take (i+1)).flatMap eT=(l.take i).flatMap eT ++ eT l[i]:=by
   rw [List.take_succ_eq_append_getElem hi,List.flatMap_append]
   simp
  have h6:=eTs_take l (i+1)
  rw [h5,List.length_append] at h6
  have h7:(eT l[i]).length=(encN l[i].length).length+l[i].length:=by unfold eT; rw [List.length_append]
  rw [hf]
  simp only
  rw [dec_t (by omega),cond_true,getI_at hi,Option.bind_some,put3 _ _ (by simp only [List.length_append,List.length_singleton]; omega),Option.bind_some,putOf_one _ (by omega),
   gd_fits1 (by simp only [List.length_append]; omega),wrap_id (by omega) (by omega),succ_cast,h5]
  unfold eT
  simp only [List.append_assoc]
 ·rw [hf]
  simp only
  rw [dec_f (by omega),cond_false,List.take_length]
theorem text_plain (b:List UInt8) (l:List (List UInt8)) (h:b.length+(l.flatMap eT).length < 900000000) (hl:l.length < 1000000000):nums_Text b l=some (b ++ l.flatMap eT):=by
 unfold nums_Text nums_Text_L0
 rw [gd_fits1 (by omega),text_loop b l h hl (nums_Text_L0_s l) (fun _=>rfl)]
 rfl
theorem takes_plain (b:List UInt8) (n:Nat) (hb:b.length < 900000000) (hn:n < 1000000):nums_Takes b (n:Int)=some (match pRep pNum n b with
  | .inl e=>([],[],e)
  | .inr (l,r)=>(l,r,0)):=by
 have key:∀ (j:Nat) (k a:Nat) (acc:List Int),j≤n→a≤b.length→acc.length=n - j→j < k →
   ∃ r',loopX (nums_Takes_L0_s (n:Int) b) k ((a:Int),((n - j:Nat):Int),acc)=some r'∧(match pRep pNum j (b.drop a) with
    | .inl e=>r'=.inl e
    | .inr (l,r)=>∃ c:Nat,r'=.inr ((c:Int),acc ++ l)∧c≤b.length∧r=b.drop c):=by
  intro j
  induction j with
  | zero =>
   intro k a acc _ ha hl hk
   obtain ⟨k,rfl⟩:∃ i,k=i+1:=⟨k - 1,by omega⟩
   have e:nums_Takes_L0_s (n:Int) b ((a:Int),((n - 0:Nat):Int),acc)=some (.inr (.inr ((a:Int),acc))):=by
    unfold nums_Takes_L0_s
    simp only
    rw [dec_f (by split <;> omega),cond_false]
   refine ⟨_,by simp only [loopX,e]; rfl, ?_⟩
   simp only [pRep]
   exact ⟨a,by simp,ha,rfl⟩
  | succ j ih =>
   intro k a acc hj ha hl hk
   obtain ⟨k,rfl⟩:∃ i,k=i+1:=⟨k - 1,by omega⟩
   have hs:slI b (a:Int) (b.length:Int)=some (b.drop a):=slI_from b a ha
   have ht:=take_plain (b.drop a) (by rw [List.length_drop]; omega)
   have step:nums_Takes_L0_s (n:Int) b ((a:Int),((n - (j+1):Nat):Int),acc)=(cond ((takeOf (b.drop a)).2.2 != 0) (some (.inr (.inl (takeOf (b.drop a)).2.2))) (some (.inl ((IntKind.i64.wrap ((a:Int)+(takeOf (b.drop a)).2.1)),((n - j:Nat):Int),(acc ++ [(takeOf (b.drop a)).1]))))):=by
    unfold nums_Takes_L0_s
    simp only
    rw [dec_t (by split <;> omega),cond_true,hs,Option.bind_some,ht,Option.bind_some,gd_true (by unfold fitsB; simp; omega),wrap_id (x:=((n - (j+1):Nat):Int)+1) (by omega) (by omega),show ((n - (j+1):Nat):Int)+1=((n - j:Nat):Int) by omega]
   rcases takeOf_cases (b.drop a) with e | e | ⟨v,kk,e,h1,h2,h3,h4⟩
   ·rw [e] at step
    refine ⟨.inl 3,by simp only [loopX,step]; rfl, ?_⟩
    simp only [pRep,pSeq,pNum,e]
    rfl
   ·rw [e] at step
    refine ⟨.inl 2,by simp only [loopX,step]; rfl, ?_⟩
    simp only [pRep,pSeq,pNum,e]
    rfl
   ·rw [List.length_drop] at h4
    rw [e] at step
    simp only at step
    rw [bne_f rfl,cond_false,wrap_id (by omega) (by omega),show (a:Int)+(kk:Int)=((a+kk:Nat):Int) by omega] at step
    obtain ⟨r',i1,i2⟩:=ih k (a+kk) (acc ++ [(v:Int)]) (by omega) (by omega) (by simp; omega) (by omega)
    refine ⟨r',by simp only [loopX,step]; exact i1, ?_⟩
    have hp:pNum (b.drop a)=.inr ((v:Int),b.drop (a+kk)):=by
     unfold pNum
     rw [e]
     simp [List.drop_drop]
    simp only [pRep,pSeq,hp]
    cases hq:pRep pNum j (b.drop (a+kk)) with
    | inl er=>rw [hq] at i2; exact i2
    | inr y =>
     obtain ⟨l,r⟩:=y
     rw [hq] at i2
     obtain ⟨c,c1,c2,c3⟩:=i2
     exact ⟨c,by rw [c1]; simp,c2,c3⟩
 obtain ⟨r',h1,h2⟩:=key n KK 0 [] (Nat.le_refl _) (by omega) (by simp) (by have:=KK_big; omega)
 rw [Nat.sub_self] at h1
 unfold nums_Takes nums_Takes_L0
 rw [show ((0:Int),(0:Int),([]:List Int))=(((0:Nat):Int),((0:Nat):Int),[]) from rfl,h1,Option.bind_some]
 rw [List.drop_zero] at h2
 cases hq:pRep pNum n b with
 | inl e =>
  rw [hq] at h2
  subst h2
  rfl
 | inr y =>
  obtain ⟨l,r⟩:=y
  rw [hq] at h2
  obtain ⟨c,rfl,c2,rfl⟩:=h2
  simp only [isL,cond_false,getR,List.nil_append]
  unfold nums_own
  rw [slI_from b c c2,Option.bind_some,gd_fits1 (by rw [List.length_drop]; omega),Option.bind_some]
theorem takeText_plain (b:List UInt8) (hb:b.length < 900000000):nums_TakeText b=some (match pText b with
  | .inl e=>([],[],e)
  | .inr (s,r)=>(s,r,0)):=by
 unfold nums_TakeText pText
 rw [take_plain b (by omega),Option.bind_some]
 rcases takeOf_cases b with e | e | ⟨v,k,e,h1,h2,h3,h4⟩
 ·rw [e]; rfl
 ·rw [e]; rfl
 ·rw [e]
  simp only [if_true,Int.toNat_natCast]
  rw [bne_f rfl,cond_false,wrap_id (x:=(b.length:Int) - (k:Int)) (by omega) (by omega)]
  by_cases c:v≤b.length - k
  ·rw [dec_f (by omega),cond_false,if_pos c,wrap_id (by omega) (by omega),show (k:Int)+(v:Int)=((k+v:Nat):Int) by omega,slI_from b (k+v) (by omega),Option.bind_some]
   unfold nums_own
   rw [gd_fits1 (by rw [List.length_drop]; omega),Option.bind_some,slI_nat b k (k+v) (by omega) (by omega),Option.bind_some,Nat.add_sub_cancel_left]
  ·rw [dec_t (by omega),cond_true,if_neg c]
theorem texts_plain (b:List UInt8) (n:Nat) (hb:b.length < 900000000) (hn:n < 1000000):codec_texts b (n:Int)=some (match pRep pText n b with
  | .inl e=>([],[],e)
  | .inr (l,r)=>(l,r,0)):=by
 obtain ⟨c,h⟩:=rep_loop (p:=pText) (E:=Int ⊕ (List UInt8 × List (List UInt8))) n (by omega) (codec_texts_L0_s (n:Int)) (fun i b acc=>(b,(i:Int),acc)) (fun _ e=>.inl e) (fun b acc=>.inr (b,acc)) b.length text_shr
  (fun i b' acc hi hb' ha=>by
   unfold codec_texts_L0_s
   simp only
   rw [dec_t (by omega),cond_true,takeText_plain b' (by omega),Option.bind_some]
   cases hp:pText b' with
   | inl e =>
    have he:e≠0:=by rcases text_err _ _ hp with rfl | rfl <;> omega
    simp only
    rw [bne_t he,cond_true]
   | inr y =>
    obtain ⟨x,r⟩:=y
    simp only
    rw [bne_f rfl,cond_false,gd_true (by unfold fitsB; simp; omega),wrap_id (by omega) (by omega),succ_cast])
  (fun b' acc ha=>by
   unfold codec_texts_L0_s
   simp only
   rw [dec_f (by omega),cond_false]) n KK b [] (Nat.le_refl _) (Nat.le_refl _) (by simp) (by have:=KK_big; omega)
 rw [Nat.sub_self] at h
 unfold codec_texts codec_texts_L0
 rw [show ((b,(0:Int),[]):List UInt8 × Int × List (List UInt8))=(b,((0:Nat):Int),[]) from rfl,h,Option.bind_some]
 cases pRep pText n b with
 | inl e=>rfl
 | inr y=>rfl
end Go.Proofs.YtgahmammhclobaaGreat
