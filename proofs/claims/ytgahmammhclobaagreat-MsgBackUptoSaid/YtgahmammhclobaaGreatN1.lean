import Derived.Test.YtgahmammhclobaaGreatL4
import Derived.Test.YtgahmammhclobaaGreatY5
set_option linter.all false
set_option linter.unusedSimpArgs false
namespace Go.Proofs.YtgahmammhclobaaGreat
theorem put_loop (n:List Int) (s10:Int × List UInt8):∀ (k x:Nat) (s:List UInt8),x < 9223372036854775808→(encN x).length≤k→s.length+k < 1000000000000 →
  ∃ (y:Nat) (s':List UInt8),(∀ j,k≤j→loopX (nums_Put_L1_s n s10) j ((x:Int),s)=some ((y:Int),s'))∧y < 128∧s' ++ [UInt8.ofNat y]=s ++ encN x∧s'.length+1≤s.length+k
 | 0,x,s,_,h,_=>by have:=encN_pos x; omega
 | k+1,x,s,hx,h,hs=>by
  by_cases c:x < 128
  ·refine ⟨x,s,fun j hj=>?_,c,by rw [encN_small c],by omega⟩
   obtain ⟨j,rfl⟩:∃ i,j=i+1:=⟨j - 1,by omega⟩
   have e:nums_Put_L1_s n s10 ((x:Int),s)=some (.inr ((x:Int),s)):=by
    unfold nums_Put_L1_s
    rw [dec_f (by simp only; omega),cond_false]
   simp only [loopX,e]
  ·have hl:(encN (x / 128)).length≤k:=by rw [encN_big c] at h; simpa using h
   obtain ⟨y,s',h1,h2,h3,h4⟩:=put_loop n s10 k (x / 128) (s ++ [UInt8.ofNat (x % 128+128)]) (by omega) hl (by simp; omega)
   refine ⟨y,s',fun j hj=>?_,h2,by rw [h3,enc_split x c],by simp at h4; omega⟩
   obtain ⟨j,rfl⟩:∃ i,j=i+1:=⟨j - 1,by omega⟩
   have e:nums_Put_L1_s n s10 ((x:Int),s)=some (.inl (((x / 128:Nat):Int),s ++ [UInt8.ofNat (x % 128+128)])):=by
    unfold nums_Put_L1_s
    rw [dec_t (by simp only; omega),cond_true]
    simp only [put_byte hx,shr7]
    rw [gd_fits1 (by simp; omega)]
   simp only [loopX,e]
   exact h1 j (by omega)
theorem put_plain (b:List UInt8) (l:List Int) (h:b.length+10 * l.length < 1000000000):nums_Put b l=some (putOf b l):=by
 unfold nums_Put
 rw [gd_fits1 (by omega)]
 have key:∃ e,nums_Put_L2 l (0,b)=some e∧e=(if l.all mayN then .inr (b ++ encI l) else .inl ()):=by
  refine loopX_inv (fun (s:Int × List UInt8)=>l.length - s.1.toNat) (fun (s:Int × List UInt8)=>∃ i:Nat,s.1=(i:Int)∧i≤l.length∧(∀ x ∈ l.take i,mayN x=true)∧s.2=b ++ encI (l.take i)) _ ?_ KK (0,b) ⟨0,rfl,by omega,by simp,by simp [encI]⟩ (by have:=KK_big; simp only; omega)
  rintro ⟨j,s⟩ ⟨i,rfl,h1,h2,rfl⟩
  have hle:=encI_le _ h2
  rw [List.length_take] at hle
  simp only [nums_Put_L2_s]
  by_cases hi:i < l.length
  ·rw [dec_t (by omega),cond_true,getI_at hi,Option.bind_some]
   by_cases hx:mayN l[i]=true
   ·left
    have hx':=hx
    simp only [mayN,decide_eq_true_eq] at hx'
    have e0:∀ s,nums_Put_J0 l[i] s l=some (.inr ()):=fun s=>by
     unfold nums_Put_J0
     rw [dec_f (by omega),cond_false,dec_f (by omega),cond_false]
    obtain ⟨x,hxe⟩:∃ x:Nat,l[i]=x:=⟨l[i].toNat,by omega⟩
    have h9:=encN_le9 (x:=x) (by omega)
    obtain ⟨y,s',q1,q2,q3,q4⟩:=put_loop l ((i:Int),b ++ encI (l.take i)) 9 x (b ++ encI (l.take i)) (by omega) h9 (by simp; omega)
    have q1':=q1 KK (by decide)
    rw [e0,Option.bind_some,hxe]
    simp only [isL,cond_false,nums_Put_L1,q1',Option.bind_some]
    have q5:s' ++ [u8w (y:Int)]=b ++ encI (l.take (i+1)):=by
     rw [u8w_nat (by omega),q3,List.take_succ_eq_append_getElem hi,encI_snoc,hxe]
     simp
    rw [gd_fits1 (by simp at q4 ⊢; omega),q5]
    refine ⟨_,rfl,⟨i+1,by rw [wrap_id (by omega) (by omega)]; simp,by omega, ?_,rfl⟩,by rw [wrap_id (by omega) (by omega)]; omega⟩
    rw [List.take_succ_eq_append_getElem hi]
    intro y hy
    rcases List.mem_append.1 hy with hy | hy
    ·exact h2 y hy
    ·rw [List.mem_singleton.1 hy]; exact hx
   ·right
    rw [if_neg (by simp [all_take l hi (by simpa using hx)])]
    have e0:nums_Put_J0 l[i] ((i:Int),b ++ encI (l.take i)) l=some (.inl ()):=by
     unfold nums_Put_J0
     simp only [mayN,decide_eq_true_eq] at hx
     by_cases c:l[i] < 0
     ·rw [dec_t c,cond_true]
     ·rw [dec_f c,cond_false,dec_t (by omega),cond_true]
    rw [e0,Option.bind_some]
    exact ⟨_,rfl,rfl⟩
  ·right
   rw [dec_f (by omega),cond_false]
   rw [List.take_of_length_le (by omega)] at h2 ⊢
   rw [if_pos (List.all_eq_true.2 h2)]
   exact ⟨_,rfl,rfl⟩
 obtain ⟨e,e1,e2⟩:=key
 rw [e1,Option.bind_some,e2]
 unfold putOf
 split <;> rfl
theorem last_plain (c:UInt8):nums_take_1 c=some (decide (c.toNat < 128)):=by
 unfold nums_take_1
 rw [last_byte]
def atI:Option Nat→Int
 | some i=>i
 | none=>-1
theorem index_plain (b:List UInt8) (h:b.length < 1000000000000):slices_IndexFunc_byte_byte b=some (atI (endsAt b)):=by
 unfold slices_IndexFunc_byte_byte
 have key:∃ x,slices_IndexFunc_byte_byte_L0 b 0=some x∧(match endsAt b with
   | some i=>x=.inl (i:Int)
   | none=>x=.inr ()):=by
  refine loopX_inv (fun s:Int=>b.length - s.toNat) (fun s=>∃ i:Nat,s=(i:Int)∧i≤b.length∧∀ j (h:j < i) (h':j < b.length),¬ (b[j]).toNat < 128) _ ?_ KK 0 ⟨0,rfl,by omega,fun j h=>by omega⟩ (by have:=KK_big; simp; omega)
  rintro s ⟨i,rfl,h1,h2⟩
  simp only [slices_IndexFunc_byte_byte_L0_s]
  by_cases hi:i < b.length
  ·rw [dec_t (by omega),cond_true,getI_at hi,Option.bind_some,last_plain,Option.bind_some]
   by_cases hc:(b[i]).toNat < 128
   ·right
    refine ⟨.inl (i:Int),by rw [decide_eq_true hc,cond_true], ?_⟩
    rw [endsAt_drop b i h1 h2,List.drop_eq_getElem_cons hi,endsAt,if_pos hc]
    simp
   ·left
    rw [dec_f hc,cond_false,wrap_id (by omega) (by omega)]
    refine ⟨_,rfl,⟨i+1,by omega,by omega,fun j hj hj'=>?_⟩,by omega⟩
    rcases Nat.lt_or_ge j i with q | q
    ·exact h2 j q hj'
    ·have:j=i:=by omega
     subst this
     exact hc
  ·right
   refine ⟨.inr (),by rw [dec_f (by omega),cond_false], ?_⟩
   rw [endsAt_drop b i h1 h2,List.drop_of_length_le (by omega)]
   simp [endsAt]
 obtain ⟨x,e1,e2⟩:=key
 rw [e1,Option.bind_some]
 cases he:endsAt b with
 | some i =>
  rw [he] at e2
  simp only at e2
  subst e2
  rfl
 | none =>
  rw [he] at e2
  simp only at e2
  subst e2
  rfl
theorem horner_plain (b:List UInt8) (i:Nat) (hi:i < b.length) (h9:i < 9):nums_take_L1 b (i:Int) (0,(i:Int))=some ((valOf (b.take (i+1)):Nat):Int):=by
 have key:∃ x,nums_take_L1 b (i:Int) (0,(i:Int))=some x∧x=((valOf (b.take (i+1)):Nat):Int):=by
  refine loopX_inv (fun s:Int × Int=>(s.2+1).toNat) (fun s=>∃ k:Nat,k≤i+1∧s.2=(k:Int) - 1∧s.1=((valOf ((b.take (i+1)).drop k):Nat):Int)) _ ?_ KK (0,(i:Int)) ⟨i+1,by omega,by simp,by rw [List.drop_of_length_le (by simp; omega)]; simp [valOf]⟩ (by have:=KK_big; simp only; omega)
  rintro ⟨v,j⟩ ⟨k,h1,h2,h3⟩
  simp only at h2 h3
  subst h2 h3
  simp only [nums_take_L1_s]
  cases k with
  | zero =>
   right
   exact ⟨_,by rw [dec_f (by omega),cond_false],by simp⟩
  | succ k =>
   left
   have hk:k < b.length:=by omega
   have e:((k+1:Nat):Int) - 1=(k:Int):=by omega
   rw [e,dec_t (by omega),cond_true,getI_at hk,Option.bind_some]
   have hl:((b.take (i+1)).drop (k+1)).length≤8:=by simp; omega
   have hv:=valOf_lt ((b.take (i+1)).drop (k+1))
   have hv8:valOf ((b.take (i+1)).drop (k+1)) < 72057594037927936:=Nat.lt_of_lt_of_le hv (by
    have:=Nat.pow_le_pow_right (n:=128) (by omega) hl
    simpa using this)
   have hd:(b.take (i+1)).drop k=b[k] :: (b.take (i+1)).drop (k+1):=by
    rw [List.drop_eq_getElem_cons (by simp; omega)]
    simp
   refine ⟨_,rfl,⟨k,by omega, ?_, ?_⟩, ?_⟩
   ·simp only
    rw [wrap_id (by omega) (by omega)]
   ·simp only
    rw [low_byte,wrap_id (by omega) (by omega),or_low _ _ hv8 (by omega),hd]
    rfl
   ·simp only
    rw [wrap_id (by omega) (by omega)]
    omega
 obtain ⟨x,e1,e2⟩:=key
 rw [e1,e2]
theorem take_plain (b:List UInt8) (h:b.length < 1000000000000):nums_take b=some (takeOf b):=by
 unfold nums_take takeOf
 rw [index_plain b h,Option.bind_some]
 cases he:endsAt b with
 | none=>rfl
 | some i =>
  have hi:=endsAt_lt he
  show _=some (takeAt b i)
  unfold takeAt
  have ea:atI (some i)=(i:Int):=rfl
  rw [ea,dec_f (by omega),cond_false]
  have j0:nums_take_J0 (i:Int) b=some (if 9≤i∨(0 < i∧b[i]?=some 0) then .inl () else .inr ()):=by
   unfold nums_take_J0
   by_cases h9:9≤i
   ·rw [dec_t (by omega),cond_true,if_pos (.inl h9)]
   ·rw [dec_f (by omega),cond_false]
    by_cases h0:0 < i
    ·rw [dec_t (by omega),cond_true,getI_nat,List.getElem?_eq_getElem hi,Option.bind_some]
     by_cases hz:b[i]=0
     ·rw [if_pos (.inr ⟨h0,by rw [hz]⟩),hz]
      rfl
     ·rw [if_neg (by
       rintro (q | ⟨_,q⟩)
       ·omega
       ·exact hz (Option.some.inj q))]
      rw [beq_f (by
       intro e
       exact hz (UInt8.toNat_inj.1 (by simp; omega))),cond_false]
    ·rw [dec_f (by omega),cond_false,if_neg (by
      rintro (q | ⟨q,_⟩) <;> omega)]
  rw [j0,Option.bind_some]
  by_cases hc:9≤i∨(0 < i∧b[i]?=some 0)
  ·rw [if_pos hc,if_pos hc]
   rfl
  ·rw [if_neg hc,if_neg hc]
   simp only [isL,cond_false]
   have h9:i < 9:=by
    rcases Nat.lt_or_ge i 9 with q | q
    ·exact q
    ·exact absurd (.inl q) hc
   rw [horner_plain b i hi h9,Option.bind_some]
   unfold nums_take_J2
   rw [dec_f (by omega),cond_false]
   by_cases hv:4611686018427387903 < valOf (b.take (i+1))
   ·rw [dec_t (by omega),cond_true,if_pos hv]
    rfl
   ·rw [dec_f (by omega),cond_false,if_neg hv,Option.bind_some]
    simp only [isL,cond_false]
    rw [wrap_id (by omega) (by omega)]
    rfl
theorem Take_plain (b:List UInt8) (h:b.length < 1000000000000):nums_Take b=some (TakeOf b):=by
 unfold nums_Take TakeOf
 rw [take_plain b h,Option.bind_some]
 have hle:=takeOf_le b
 generalize takeOf b=t at *
 obtain ⟨v,k,e⟩:=t
 simp only at hle ⊢
 by_cases he:e=0
 ·subst he
  simp only [bne_self_eq_false,cond_false,if_true]
  obtain ⟨n,rfl⟩:∃ n:Nat,k=n:=⟨k.toNat,by omega⟩
  rw [slI_from b n (by omega),Option.bind_some]
  unfold nums_own
  rw [gd_fits1 (by simp; omega),Option.bind_some]
  simp
 ·rw [bne_t he,cond_true,if_neg he]
end Go.Proofs.YtgahmammhclobaaGreat
