import Derived.Test.YtgahmammhclobaaGreatN1
import Derived.Test.YtgahmammhclobaaGreatK2
import Derived.Test.YtgahmammhclobaaGreatY5
set_option linter.all false
set_option linter.unusedSimpArgs false
namespace Go.Proofs.YtgahmammhclobaaGreat
theorem rput_byte {x:Nat} (h:x < 9223372036854775808):u8w (IntKind.i64.wrap (128+Int.tmod (x:Int) 128))=UInt8.ofNat (x % 128+128):=by
 rw [Int.tmod_eq_emod_of_nonneg (by omega),wrap_id (by omega) (by omega)]
 have:(128:Int)+(x:Int) % 128=((x % 128+128:Nat):Int):=by omega
 rw [this,u8w_nat (by omega)]
theorem rput_next {x:Nat} (h:x < 9223372036854775808):IntKind.i64.wrap (Int.tdiv (x:Int) 128)=((x / 128:Nat):Int):=by
 rw [Int.tdiv_eq_ediv_of_nonneg (by omega),wrap_id (by omega) (by omega)]
 omega
theorem may_plain (x:Int):oR_May x=some (mayN x):=by
 unfold oR_May mayN
 by_cases h:0≤x
 ·rw [dec_t (by omega),cond_true]
  congr 1
  rw [decide_eq_decide]
  omega
 ·rw [dec_f (by omega),cond_false,dec_f (by omega)]
theorem rput_loop (n:List Int) (s10:Int × List UInt8):∀ (k x:Nat) (s:List UInt8),x < 9223372036854775808→(encN x).length≤k→s.length+k < 1000000000000 →
  ∃ (y:Nat) (s':List UInt8),(∀ j,k≤j→loopX (oR_Put_3_L0_s n s10) j ((x:Int),s)=some ((y:Int),s'))∧y < 128∧s' ++ [UInt8.ofNat y]=s ++ encN x∧s'.length+1≤s.length+k
 | 0,x,s,_,h,_=>by have:=encN_pos x; omega
 | k+1,x,s,hx,h,hs=>by
  by_cases c:x < 128
  ·refine ⟨x,s,fun j hj=>?_,c,by rw [encN_small c],by omega⟩
   obtain ⟨j,rfl⟩:∃ i,j=i+1:=⟨j - 1,by omega⟩
   have e:oR_Put_3_L0_s n s10 ((x:Int),s)=some (.inr ((x:Int),s)):=by
    unfold oR_Put_3_L0_s
    rw [dec_f (by simp only; omega),cond_false]
   simp only [loopX,e]
  ·have hl:(encN (x / 128)).length≤k:=by rw [encN_big c] at h; simpa using h
   obtain ⟨y,s',h1,h2,h3,h4⟩:=rput_loop n s10 k (x / 128) (s ++ [UInt8.ofNat (x % 128+128)]) (by omega) hl (by simp; omega)
   refine ⟨y,s',fun j hj=>?_,h2,by rw [h3,enc_split x c],by simp at h4; omega⟩
   obtain ⟨j,rfl⟩:∃ i,j=i+1:=⟨j - 1,by omega⟩
   have e:oR_Put_3_L0_s n s10 ((x:Int),s)=some (.inl (((x / 128:Nat):Int),s ++ [UInt8.ofNat (x % 128+128)])):=by
    unfold oR_Put_3_L0_s
    rw [dec_t (by simp only; omega),cond_true]
    simp only [rput_byte hx,rput_next hx]
    rw [gd_fits1 (by simp; omega)]
   simp only [loopX,e]
   exact h1 j (by omega)
theorem rput_plain (b:List UInt8) (l:List Int) (h:b.length+10 * l.length < 1000000000):oR_Put_3 b l=some (putOf b l):=by
 unfold oR_Put_3
 rw [gd_fits1 (by omega)]
 have key:∃ e,oR_Put_3_L1 l (0,b)=some e∧e=(if l.all mayN then .inr (b ++ encI l) else .inl ()):=by
  refine loopX_inv (fun (s:Int × List UInt8)=>l.length - s.1.toNat) (fun (s:Int × List UInt8)=>∃ i:Nat,s.1=(i:Int)∧i≤l.length∧(∀ x ∈ l.take i,mayN x=true)∧s.2=b ++ encI (l.take i)) _ ?_ KK (0,b) ⟨0,rfl,by omega,by simp,by simp [encI]⟩ (by have:=KK_big; simp only; omega)
  rintro ⟨j,s⟩ ⟨i,rfl,h1,h2,rfl⟩
  have hle:=encI_le _ h2
  rw [List.length_take] at hle
  simp only [oR_Put_3_L1_s]
  by_cases hi:i < l.length
  ·rw [dec_t (by omega),cond_true,getI_at hi,Option.bind_some,may_plain,Option.bind_some]
   by_cases hx:mayN l[i]=true
   ·left
    have hx':=hx
    simp only [mayN,decide_eq_true_eq] at hx'
    obtain ⟨x,hxe⟩:∃ x:Nat,l[i]=x:=⟨l[i].toNat,by omega⟩
    have h9:=encN_le9 (x:=x) (by omega)
    obtain ⟨y,s',q1,q2,q3,q4⟩:=rput_loop l ((i:Int),b ++ encI (l.take i)) 9 x (b ++ encI (l.take i)) (by omega) h9 (by simp; omega)
    have q1':=q1 KK (by decide)
    rw [hx]
    simp only [Bool.not_true,cond_false,oR_Put_3_L0,hxe,q1',Option.bind_some]
    have q5:s' ++ [u8w (y:Int)]=b ++ encI (l.take (i+1)):=by
     rw [u8w_nat (by omega),q3,List.take_succ_eq_append_getElem hi,encI_snoc,hxe]
     simp
    rw [gd_fits1 (by simp at q4 ⊢; omega),q5]
    refine ⟨_,rfl,⟨i+1,by rw [wrap_id (by omega) (by omega)]; simp,by omega, ?_,rfl⟩,by rw [wrap_id (by omega) (by omega)]; omega⟩
    rw [List.take_succ_eq_append_getElem hi]
    intro y hy
    rcases List.mem_append.1 hy with hy | hy
    ·exact h2 y hy
    ·rw [List.mem_singleton.1 hy]; exact hx
   ·right
    have hx':mayN l[i]=false:=by simpa using hx
    rw [if_neg (by simp [all_take l hi hx']),hx']
    exact ⟨_,rfl,rfl⟩
  ·right
   rw [dec_f (by omega),cond_false]
   rw [List.take_of_length_le (by omega)] at h2 ⊢
   rw [if_pos (List.all_eq_true.2 h2)]
   exact ⟨_,rfl,rfl⟩
 obtain ⟨e,e1,e2⟩:=key
 rw [e1,Option.bind_some,e2]
 unfold putOf
 split <;> rfl
theorem rput1_plain (b:List UInt8) (l:List Int) (h:b.length+10 * l.length < 1000000000):oR_Put b l=some (putOf b l):=rput_plain b l h
def lateE (b:List UInt8) (i:Nat):Int:=match endsAt (b.drop i) with
 | some _=>2
 | none=>3
theorem late_plain (b:List UInt8) (i:Nat) (hi:i≤b.length) (h:b.length < 1000000000000):oR_late b (i:Int)=some (lateE b i):=by
 unfold oR_late
 have key:∃ x,oR_late_L0 b (i:Int)=some x∧(cond (isL x) (some 2) (some 3):Option Int)=some (lateE b i):=by
  refine loopX_inv (fun s:Int=>b.length - s.toNat) (fun s=>∃ j:Nat,s=(j:Int)∧j≤b.length∧lateE b i=lateE b j) _ ?_ KK (i:Int) ⟨i,rfl,hi,rfl⟩ (by have:=KK_big; simp; omega)
  rintro s ⟨j,rfl,h1,h2⟩
  simp only [oR_late_L0_s]
  by_cases hj:j < b.length
  ·have hd:b.drop j=b[j] :: b.drop (j+1):=List.drop_eq_getElem_cons hj
   rw [dec_t (by omega),cond_true,getI_at hj,Option.bind_some]
   by_cases hc:(b[j]).toNat < 128
   ·right
    rw [dec_t (by omega),cond_true]
    refine ⟨_,rfl, ?_⟩
    rw [h2]
    unfold lateE
    rw [hd,endsAt,if_pos hc]
    rfl
   ·left
    rw [dec_f (by omega),cond_false,wrap_id (by omega) (by omega)]
    refine ⟨_,rfl,⟨j+1,by omega,by omega, ?_⟩,by omega⟩
    rw [h2]
    unfold lateE
    rw [hd,endsAt,if_neg hc]
    cases endsAt (b.drop (j+1)) <;> rfl
  ·right
   rw [dec_f (by omega),cond_false]
   refine ⟨_,rfl, ?_⟩
   rw [h2]
   unfold lateE
   rw [List.drop_of_length_le (by omega),endsAt]
   rfl
 obtain ⟨x,e1,e2⟩:=key
 rw [e1,Option.bind_some,e2]
theorem TakeOf_bad {b:List UInt8} {e:Int} (h:takeOf b=(0,0,e)) (he:e≠0):TakeOf b=(0,[],e):=by
 unfold TakeOf
 rw [h]
 simp [he]
theorem late_is (b:List UInt8) (i:Nat) (hi:i≤b.length) (hs:∀ j (h:j < i) (h':j < b.length),¬ (b[j]).toNat < 128)
  (hb:∀ j,endsAt b=some j→9≤j∨4611686018427387903 < valOf (b.take (j+1))):TakeOf b=(0,[],lateE b i):=by
 have e:=endsAt_drop b i hi hs
 unfold lateE
 cases hd:endsAt (b.drop i) with
 | none =>
  rw [hd] at e
  refine TakeOf_bad (e:=3) ?_ (by decide)
  unfold takeOf
  rw [e]
  rfl
 | some k =>
  rw [hd] at e
  refine TakeOf_bad (e:=2) ?_ (by decide)
  have:=hb _ e
  unfold takeOf
  rw [e]
  show takeAt b (k+i)=(0,0,2)
  unfold takeAt
  split
  ·rfl
  ·rename_i q
   rcases this with w | w
   ·exact absurd (.inl w) q
   ·rw [if_pos w]
theorem valOf_8 {b:List UInt8} (h:8 < b.length):valOf (b.take 9)=valOf (b.take 8)+72057594037927936 * ((b[8]).toNat % 128)∧valOf (b.take 8) < 72057594037927936:=by
 have e:b.take 9=b.take 8 ++ [b[8]]:=List.take_succ_eq_append_getElem h
 have hl:(b.take 8).length=8:=by rw [List.length_take]; omega
 have:=valOf_lt (b.take 8)
 rw [hl] at this
 refine ⟨?_,this⟩
 rw [e,valOf_app,hl]
 simp [valOf]
theorem shl_plain (m i:Nat) (hm:m < 128) (hi:i≤8) (h8:i=8→m < 64):shlI .i64 (m:Int) (IntKind.u64.wrap (IntKind.i64.wrap (7 * (i:Int))))=some ((m * 128 ^ i:Nat):Int):=by
 rw [wrap_id (by omega) (by omega),wrapU_id (by omega) (by omega)]
 unfold shlI
 rw [if_neg (by omega)]
 have e1:min (7 * (i:Int)).toNat (IntKind.bits .i64)=7 * i:=by
  show min (7 * (i:Int)).toNat 64=7 * i
  omega
 have e2:(m:Int) * 2 ^ (7 * i)=((m * 128 ^ i:Nat):Int):=by
  rw [Int.pow_mul]
  norm_cast
 have e3:m * 128 ^ i < 9223372036854775808:=by
  rcases Nat.lt_or_ge i 8 with q | q
  ·have:=Nat.pow_le_pow_right (n:=128) (by omega) (show i≤7 by omega)
   have h2:=Nat.mul_le_mul (show m≤127 by omega) this
   exact Nat.lt_of_le_of_lt h2 (by decide)
  ·obtain rfl:i=8:=by omega
   have:=h8 rfl
   rw [show (128:Nat) ^ 8=72057594037927936 from by decide]
   omega
 rw [e1,e2,wrap_id (by omega) (by omega)]
theorem rtake_plain (b:List UInt8) (h:b.length < 1000000000):oR_Take b=some (TakeOf b):=by
 unfold oR_Take
 have key:∃ x,oR_Take_L3 b (0,0)=some x∧(cond (isL x) (some ((getL x).1,(getL x).2.2,(getL x).2.1)) (some (0,[],3)))=some (TakeOf b):=by
  refine loopX_inv (fun (s:Int × Int)=>b.length - s.2.toNat) (fun (s:Int × Int)=>∃ i:Nat,s.2=(i:Int)∧i≤b.length∧i≤9∧(∀ j (h:j < i) (h':j < b.length),¬ (b[j]).toNat < 128)∧s.1=((valOf (b.take i):Nat):Int)) _ ?_ KK (0,0) ⟨0,rfl,by omega,by omega,fun j h=>by omega,by simp [valOf]⟩ (by have:=KK_big; simp only; omega)
  rintro ⟨v,i'⟩ ⟨i,rfl,h1,h9,hs,rfl⟩
  simp only [oR_Take_L3_s]
  by_cases hi:i < b.length
  case neg =>
   right
   rw [dec_f (by omega),cond_false]
   refine ⟨_,rfl, ?_⟩
   have:i=b.length:=by omega
   subst this
   have en:endsAt b=none:=by
    rw [endsAt_drop b _ (Nat.le_refl _) hs,List.drop_length]
    rfl
   rw [TakeOf_bad (e:=3) (by unfold takeOf; rw [en]) (by decide)]
   rfl
  rw [dec_t (by omega),cond_true,getI_at hi,Option.bind_some]
  generalize hc:b[i]=c
  have hc2:=c.toNat_lt
  have w0:IntKind.i64.wrap (c.toNat:Int)=(c.toNat:Int):=wrap_id (by omega) (by omega)
  have m0:Int.tmod (c.toNat:Int) 128=((c.toNat % 128:Nat):Int):=by rw [Int.tmod_eq_emod_of_nonneg (by omega)]; omega
  have hd:b.drop i=c :: b.drop (i+1):=by rw [List.drop_eq_getElem_cons hi,hc]
  by_cases late:i=9∨(i=8∧64≤c.toNat % 128)
  ·right
   have j0:oR_Take_J0 (((valOf (b.take i):Nat):Int),(i:Int)) c b=some true:=by
    unfold oR_Take_J0
    simp only [w0,m0]
    rcases late with q | ⟨q,q2⟩
    ·rw [beq_t (by omega),cond_true]
    ·rw [beq_f (by omega),cond_false,beq_t (by omega),cond_true,dec_t (by omega)]
   have j1:oR_Take_J1 (((valOf (b.take i):Nat):Int),(i:Int)) c b=some (.inl (lateE b i)):=by
    unfold oR_Take_J1
    rw [j0,Option.bind_some,cond_true]
    simp only
    rw [late_plain b i (by omega) (by omega),Option.bind_some]
   rw [j1,Option.bind_some]
   refine ⟨_,rfl, ?_⟩
   simp only [isL,getL,cond_true]
   rw [late_is b i (by omega) hs fun j hj=>?_]
   rcases Nat.lt_or_ge j 9 with q | q
   ·right
    have hji:i≤j:=by
     rcases Nat.lt_or_ge j i with w | w
     ·obtain ⟨_,u1,u2⟩:=endsAt_spec hj
      exact absurd u2 (hs j w u1)
     ·exact w
    rcases late with w | ⟨w,w2⟩
    ·omega
    ·subst w
     obtain rfl:j=8:=by omega
     have:=valOf_8 hi
     rw [hc] at this
     show 4611686018427387903 < valOf (b.take 9)
     omega
   ·exact .inl q
  ·have hi8:i≤8:=by omega
   have h64:i=8→c.toNat % 128 < 64:=by omega
   have j0:oR_Take_J0 (((valOf (b.take i):Nat):Int),(i:Int)) c b=some false:=by
    unfold oR_Take_J0
    simp only [w0,m0]
    rw [beq_f (by omega),cond_false]
    by_cases q:i=8
    ·rw [beq_t (by omega),cond_true,dec_f (by omega)]
    ·rw [beq_f (by omega),cond_false]
   have j1:oR_Take_J1 (((valOf (b.take i):Nat):Int),(i:Int)) c b=some (.inr ()):=by
    unfold oR_Take_J1
    rw [j0,Option.bind_some,cond_false]
   rw [j1,Option.bind_some]
   simp only [isL,cond_false,w0,m0]
   rw [shl_plain _ i (by omega) hi8 h64,Option.bind_some]
   have tk:b.take (i+1)=b.take i ++ [c]:=by rw [List.take_succ_eq_append_getElem hi,hc]
   have hl:(b.take i).length=i:=by rw [List.length_take]; omega
   have ev:valOf (b.take (i+1))=valOf (b.take i)+c.toNat % 128 * 128 ^ i:=by
    rw [tk,valOf_app,hl]
    simp [valOf,Nat.mul_comm]
   have hv:valOf (b.take (i+1))≤4611686018427387903:=by
    rcases Nat.lt_or_ge i 8 with q | q
    ·have a1:=valOf_lt (b.take (i+1))
     have a2:(b.take (i+1)).length≤8:=by rw [List.length_take]; omega
     have a3:=Nat.pow_le_pow_right (n:=128) (by omega) a2
     have a4:(128:Nat) ^ 8=72057594037927936:=by decide
     omega
    ·obtain rfl:i=8:=by omega
     have:=valOf_8 hi
     rw [hc] at this
     show valOf (b.take 9)≤_
     omega
   have ew:IntKind.i64.wrap (((valOf (b.take i):Nat):Int)+((c.toNat % 128 * 128 ^ i:Nat):Int))=((valOf (b.take (i+1)):Nat):Int):=by
    rw [ev] at hv ⊢
    rw [wrap_id (by omega) (by omega)]
    omega
   rw [ew]
   by_cases hc8:c.toNat < 128
   ·right
    have en:endsAt b=some i:=by
     rw [endsAt_drop b i h1 hs,hd,endsAt,if_pos hc8]
     simp
    rw [dec_f (by omega),cond_false]
    have ei:b[i]?=some c:=by rw [List.getElem?_eq_getElem hi,hc]
    by_cases z:c=0∧0 < i
    ·have j2:oR_Take_J2 c (((valOf (b.take i):Nat):Int),(i:Int)) b ((c.toNat % 128 * 128 ^ i:Nat):Int)=some (.inl ()):=by
      unfold oR_Take_J2
      simp only [w0]
      rw [beq_t (by rw [z.1]; rfl),cond_true,dec_t (by omega),cond_true]
     rw [j2,Option.bind_some]
     refine ⟨_,rfl, ?_⟩
     rw [TakeOf_bad (e:=2) (by
      unfold takeOf
      rw [en]
      show takeAt b i=_
      unfold takeAt
      rw [if_pos (.inr ⟨z.2,by rw [ei,z.1]⟩)]) (by decide)]
     rfl
    ·have j2:oR_Take_J2 c (((valOf (b.take i):Nat):Int),(i:Int)) b ((c.toNat % 128 * 128 ^ i:Nat):Int)=some (.inr ()):=by
      unfold oR_Take_J2
      simp only [w0]
      by_cases q:c=0
      ·rw [beq_t (by rw [q]; rfl),cond_true,dec_f (by
        intro w
        exact z ⟨q,by omega⟩),cond_false]
      ·rw [beq_f (fun w=>q (UInt8.toNat_inj.1 (by simp; omega))),cond_false]
     rw [j2,Option.bind_some]
     simp only [isL,cond_false]
     rw [wrap_id (by omega) (by omega),succ_cast,slI_from b (i+1) (by omega),Option.bind_some,gd_fits1 (by simp; omega)]
     refine ⟨_,rfl, ?_⟩
     simp only [isL,getL,cond_true]
     have:takeOf b=(((valOf (b.take (i+1)):Nat):Int),((i+1:Nat):Int),0):=by
      unfold takeOf
      rw [en]
      show takeAt b i=_
      unfold takeAt
      rw [if_neg (by
       rintro (q | ⟨q1,q2⟩)
       ·omega
       ·rw [ei] at q2
        exact z ⟨Option.some.inj q2,q1⟩),if_neg (by omega)]
     unfold TakeOf
     rw [this]
     simp
   ·left
    rw [dec_t (by omega),cond_true,wrap_id (by omega) (by omega)]
    refine ⟨_,rfl,⟨i+1,by omega,by omega,by omega,fun j hj hj'=>?_,rfl⟩,by simp only; omega⟩
    rcases Nat.lt_or_ge j i with q | q
    ·exact hs j q hj'
    ·obtain rfl:j=i:=by omega
     rw [hc]
     exact hc8
 obtain ⟨x,e1,e2⟩:=key
 rw [e1,Option.bind_some,e2]
theorem rtext_plain (b:List UInt8) (l:List (List UInt8)) (h:b.length+(l.flatMap eT).length < 900000000) (hl:l.length < 1000000000):oR_Text b l=some (b ++ l.flatMap eT):=by
 unfold oR_Text oR_Text_L0
 rw [gd_fits1 (by omega)]
 have key:loopX (oR_Text_L0_s l) KK (0,b)=some (b ++ l.flatMap eT):=by
  have e0:((0:Int),b)=(((0:Nat):Int),b ++ (l.take 0).flatMap eT):=by simp
  rw [e0]
  refine loop_run (fun i=>((i:Int),b ++ (l.take i).flatMap eT)) l.length _ (fun i hi=>?_) ?_ (by omega)
  ·have h5:(l.take (i+1)).flatMap eT=(l.take i).flatMap eT ++ eT l[i]:=by
    rw [List.take_succ_eq_append_getElem hi,List.flatMap_append]
    simp
   have h6:=eTs_take l (i+1)
   rw [h5,List.length_append] at h6
   have h7:(eT l[i]).length=(encN l[i].length).length+l[i].length:=by unfold eT; rw [List.length_append]
   unfold oR_Text_L0_s
   simp only
   rw [dec_t (by omega),cond_true,getI_at hi,Option.bind_some,rput_plain _ _ (by simp only [List.length_append,List.length_singleton]; omega),Option.bind_some,Option.bind_some,putOf_one _ (by omega),
    gd_fits1 (by simp only [List.length_append]; omega),wrap_id (by omega) (by omega),succ_cast,h5]
   unfold eT
   simp only [List.append_assoc]
  ·unfold oR_Text_L0_s
   simp only
   rw [dec_f (by omega),cond_false,List.take_length]
 rw [key]
 rfl
end Go.Proofs.YtgahmammhclobaaGreat
