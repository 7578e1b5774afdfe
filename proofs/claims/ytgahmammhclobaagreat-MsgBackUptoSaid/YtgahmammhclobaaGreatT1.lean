import Derived.Test.YtgahmammhclobaaGreatC3
import Derived.Test.YtgahmammhclobaaGreatY5
set_option linter.all false
set_option linter.unusedSimpArgs false
namespace Go.Proofs.YtgahmammhclobaaGreat
theorem bl_nil (a:List UInt8):Op.bytesLess a []=false:=by cases a <;> rfl
theorem bl_trans:∀ a b c,Op.bytesLess a b=true→Op.bytesLess b c=true→Op.bytesLess a c=true
 | a,[],c=>fun h=>by rw [bl_nil] at h; cases h
 | a,y :: b,[]=>fun _ h=>by rw [bl_nil] at h; cases h
 | [],y :: b,z :: c=>fun _ _=>rfl
 | x :: a,y :: b,z :: c=>by
  simp only [Op.bytesLess,Bool.or_eq_true,Bool.and_eq_true,decide_eq_true_eq,beq_iff_eq,UInt8.lt_iff_toNat_lt,← UInt8.toNat_inj]
  rintro (h | ⟨h,h'⟩) (g | ⟨g,g'⟩)
  ·left; omega
  ·left; omega
  ·left; omega
  ·right; exact ⟨by omega,bl_trans a b c h' g'⟩
theorem bl_total:∀ a b,Op.bytesLess a b=false→a≠b→Op.bytesLess b a=true
 | [],[]=>fun _ h=>absurd rfl h
 | [],y :: b=>fun h=>by cases h
 | x :: a,[]=>fun _ _=>rfl
 | x :: a,y :: b=>by
  intro h hn
  by_cases e:x=y
  ·subst e
   have:Op.bytesLess a b=false:=by
    simpa [Op.bytesLess] using h
   have:=bl_total a b this (fun q=>hn (by rw [q]))
   simp [Op.bytesLess,this]
  ·have h1:¬ x < y:=by
    intro q
    simp [Op.bytesLess,q] at h
   have:y < x:=by
    rw [UInt8.lt_iff_toNat_lt] at *
    rw [← UInt8.toNat_inj] at e
    omega
   simp [Op.bytesLess,this]
theorem cmp_plain (p:api_Pair) (key:List UInt8):table_Table_find_1 p key=some (if Op.bytesLess p.Key key then -1 else if p.Key=key then 0 else 1):=by
 unfold table_Table_find_1 cmp_Compare_string cmp_isNaN_string
 simp only [beq_self_eq_true,Bool.not_true,Option.bind_some,cond_false]
 cases h:Op.bytesLess p.Key key
 ·by_cases e:p.Key=key
  ·rw [if_neg (by simp),if_pos e]; simp [e]
  ·rw [if_neg (by simp),if_neg e]
   have:(p.Key == key)=false:=by simpa using e
   simp [this]
 ·simp
def Rising (L:List api_Pair):Prop:=(L.map (·.Key)).Pairwise (fun a b=>Op.bytesLess a b=true)
def place (L:List api_Pair) (key:List UInt8):Nat:=(L.takeWhile (fun p=>Op.bytesLess p.Key key)).length
def hadL (L:List api_Pair) (key:List UInt8):Bool:=match L[place L key]? with
 | some p=>p.Key == key
 | none=>false
def pAt (L:List api_Pair) (key:List UInt8):api_Pair:=(L[place L key]?).getD ⟨[],[]⟩
theorem place_le (L:List api_Pair) (key:List UInt8):place L key≤L.length:=(List.takeWhile_sublist _).length_le
theorem place_is (key:List UInt8):∀ (L:List api_Pair) (k:Nat),k≤L.length→(∀ i (h:i < L.length),i < k→Op.bytesLess L[i].Key key=true)→(∀ h:k < L.length,Op.bytesLess L[k].Key key=false)→k=place L key
 | [],k=>fun h _ _=>by simp [place] at *; exact h
 | p :: L,0=>fun h _ g=>by
  have:=g (by simp)
  simp at this
  simp [place,List.takeWhile_cons,this]
 | p :: L,k+1=>fun h f g=>by
  have h1:=f 0 (by simp) (by omega)
  have h2:=place_is key L k (by simpa using h) (fun i hi hk=>by have:=f (i+1) (by simpa using hi) (by omega); simpa using this) (fun hk=>by have:=g (by simpa using hk); simpa using this)
  simp at h1
  simp [place,List.takeWhile_cons,h1] at *
  exact h2
theorem place_lt (key:List UInt8):∀ (L:List api_Pair) (i:Nat) (h:i < L.length),i < place L key→Op.bytesLess L[i].Key key=true
 | [],i=>fun h=>by simp at h
 | p :: L,i=>fun h hp=>by
  cases e:Op.bytesLess p.Key key
  ·simp [place,List.takeWhile_cons,e] at hp
  ·cases i with
   | zero=>simpa using e
   | succ i =>
    simp [place,List.takeWhile_cons,e] at hp
    have:=place_lt key L i (by simpa using h) (by unfold place; omega)
    simpa using this
theorem place_ge (key:List UInt8):∀ (L:List api_Pair) (h:place L key < L.length),Op.bytesLess L[place L key].Key key=false
 | []=>fun h=>by simp at h
 | p :: L=>fun h=>by
  cases e:Op.bytesLess p.Key key
  ·have:place (p :: L) key=0:=by simp [place,List.takeWhile_cons,e]
   simp only [this]
   simpa using e
  ·have q:place (p :: L) key=place L key+1:=by simp [place,List.takeWhile_cons,e]
   simp only [q] at h ⊢
   have:=place_ge key L (by simpa using h)
   simpa using this
theorem had_of (L:List api_Pair) (key:List UInt8) (h:place L key < L.length):hadL L key=(L[place L key].Key == key):=by
 unfold hadL
 rw [List.getElem?_eq_getElem h]
theorem had_no (L:List api_Pair) (key:List UInt8) (h:¬ place L key < L.length):hadL L key=false:=by
 unfold hadL
 rw [List.getElem?_eq_none (by omega)]
theorem had_yes {L:List api_Pair} {key:List UInt8} (h:hadL L key=true):place L key < L.length:=by
 by_cases c:place L key < L.length
 ·exact c
 ·rw [had_no L key c] at h; cases h
theorem pAt_eq {L:List api_Pair} {key:List UInt8} (h:place L key < L.length):getI L (place L key:Int)=some (pAt L key):=by
 unfold pAt
 rw [getI_at h,List.getElem?_eq_getElem h]
 rfl
theorem pAt_key {L:List api_Pair} {key:List UInt8} (h:hadL L key=true):(pAt L key).Key=key:=by
 have c:=had_yes h
 rw [had_of L key c] at h
 unfold pAt
 rw [List.getElem?_eq_getElem c]
 simpa using h
theorem rising_at {L:List api_Pair} (h:Rising L) {i j:Nat} (hj:j < L.length) (hi:i < j):Op.bytesLess (L[i]'(by omega)).Key L[j].Key=true:=by
 unfold Rising at h
 rw [List.pairwise_iff_getElem] at h
 have:=h i j (by simp; omega) (by simpa using hj) hi
 simpa using this
theorem find_plain (L:List api_Pair) (key:List UInt8) (hs:Rising L) (hl:L.length≤1000):slices_BinarySearchFunc_api_Pair_api_Pair_string L key=some ((place L key:Int),hadL L key):=by
 have key1:∃ e,slices_BinarySearchFunc_api_Pair_api_Pair_string_L0 L key (((0:Nat):Int),(L.length:Int))=some e∧e=(place L key:Int):=by
  refine loopX_inv (fun s=>(s.2 - s.1).toNat) (fun s=>∃ i j:Nat,s=((i:Int),(j:Int))∧i≤j∧j≤L.length∧(∀ m (h:m < L.length),m < i→Op.bytesLess L[m].Key key=true)∧(∀ m (h:m < L.length),j≤m→Op.bytesLess L[m].Key key=false)) _ ?_ KK _ ⟨0,L.length,rfl,by omega,by omega,fun _ _ h=>by omega,fun _ _ h=>by omega⟩ (by have:=KK_big; simp only; omega)
  rintro s ⟨i,j,rfl,h1,h2,h3,h4⟩
  simp only [slices_BinarySearchFunc_api_Pair_api_Pair_string_L0_s]
  by_cases c:i < j
  ·left
   have hm:IntKind.i64.wrap (shrV .u64 (IntKind.u64.wrap (IntKind.i64.wrap ((i:Int)+(j:Int)))) 1)=(((i+j) / 2:Nat):Int):=by
    rw [wrap_id (x:=(i:Int)+j) (by omega) (by omega),wrapU_id (by omega) (by omega)]
    have:shrV .u64 ((i:Int)+(j:Int)) 1=(((i+j) / 2:Nat):Int):=by
     have e:shrV .u64 ((i:Int)+(j:Int)) 1=((i:Int)+(j:Int)).fdiv 2:=rfl
     rw [e,Int.fdiv_eq_ediv_of_nonneg _ (by omega)]
     omega
    rw [this,wrap_id (by omega) (by omega)]
   rw [hm]
   have hb:(i+j) / 2 < L.length:=by omega
   rw [dec_t (by omega),cond_true,getI_at hb,Option.bind_some,cmp_plain,Option.bind_some]
   cases e:Op.bytesLess L[(i+j) / 2].Key key
   ·have c0:(if (false=true) then (-1:Int) else if L[(i+j) / 2].Key=key then 0 else 1)=(if L[(i+j) / 2].Key=key then 0 else 1):=by simp
    rw [c0,dec_f (by split <;> omega),cond_false]
    refine ⟨_,rfl,⟨i,(i+j) / 2,rfl,by omega,by omega,h3,fun m hm2 hm3=>?_⟩,by simp only; omega⟩
    by_cases q:m=(i+j) / 2
    ·subst q; exact e
    ·have r:=rising_at hs hm2 (show (i+j) / 2 < m by omega)
     cases z:Op.bytesLess L[m].Key key
     ·rfl
     ·rw [bl_trans _ _ _ r z] at e; cases e
   ·rw [if_pos rfl,dec_t (by omega),cond_true,wrap_id (x:=(((i+j) / 2:Nat):Int)+1) (by omega) (by omega),succ_cast]
    refine ⟨_,rfl,⟨(i+j) / 2+1,j,rfl,by omega,h2,fun m hm2 hm3=>?_,h4⟩,by simp only; omega⟩
    by_cases q:m=(i+j) / 2
    ·subst q; exact e
    ·exact bl_trans _ _ _ (rising_at hs hb (show m < (i+j) / 2 by omega)) e
  ·right
   obtain rfl:i=j:=by omega
   rw [dec_f (by omega),cond_false]
   refine ⟨_,rfl, ?_⟩
   rw [← place_is key L i h2 h3 (fun h=>h4 i h (by omega))]
 obtain ⟨e,e1,rfl⟩:=key1
 unfold slices_BinarySearchFunc_api_Pair_api_Pair_string
 rw [show ((0:Int),(L.length:Int))=(((0:Nat):Int),(L.length:Int)) from rfl,e1,Option.bind_some]
 by_cases c:place L key < L.length
 ·rw [dec_t (by omega),cond_true,getI_at c,Option.bind_some,cmp_plain,Option.bind_some,had_of L key c,place_ge key L c]
  by_cases q:L[place L key].Key=key
  ·simp [q]
  ·have:(L[place L key].Key == key)=false:=by simpa using q
   simp [q]
 ·rw [dec_f (by omega),cond_false,had_no L key c]
theorem rfind (L:List api_Pair) (key:List UInt8) (hl:L.length≤1000) (f:Int→Option (Int ⊕ ((Int × Bool) ⊕ Unit)))
  (hf:∀ s3,f s3=cond (decide (s3 < (L.length:Int))) ((getI L s3).bind fun (x4:api_Pair)=>cond (!(Op.bytesLess x4.Key key)) ((getI L s3).bind fun (x5:api_Pair)=>some (.inr (.inl (s3,(x5.Key == key))))) (some (.inl (IntKind.i64.wrap (s3+1))))) (some (.inr (.inr ())))) :
  ∃ e,loopX f KK 0=some e∧cond (isL e) (some ((getL e).1,(getL e).2)) (some ((L.length:Int),false))=some ((place L key:Int),hadL L key):=by
 refine loopX_inv (fun s=>(L.length - s.toNat)) (fun s=>∃ i:Nat,s=(i:Int)∧i≤L.length∧(∀ m (h:m < L.length),m < i→Op.bytesLess L[m].Key key=true)) _ ?_ KK _ ⟨0,rfl,by omega,fun _ _ h=>by omega⟩ (by have:=KK_big; omega)
 rintro s ⟨i,rfl,h1,h2⟩
 rw [hf]
 by_cases c:i < L.length
 ·rw [dec_t (by omega),cond_true,getI_at c,Option.bind_some]
  cases e:Op.bytesLess L[i].Key key
  ·right
   refine ⟨_,rfl, ?_⟩
   have q:=place_is key L i h1 h2 (fun _=>e)
   have w:=had_of L key (by rw [← q]; exact c)
   simp only [isL,getL,cond_true]
   rw [w]
   subst q
   rfl
  ·left
   simp only [Bool.not_true,cond_false]
   rw [wrap_id (by omega) (by omega),succ_cast]
   refine ⟨_,rfl,⟨i+1,rfl,by omega,fun m hm q=>?_⟩,by omega⟩
   by_cases z:m=i
   ·subst z; exact e
   ·exact h2 m hm (by omega)
 ·right
  rw [dec_f (by omega),cond_false]
  refine ⟨_,rfl, ?_⟩
  have q:=place_is key L i h1 h2 (fun h=>absurd h c)
  have w:=had_no L key (by rw [← q]; exact c)
  simp only [isL,cond_false]
  rw [w,← q]
  congr 2
  omega
theorem rfind2 (L:List api_Pair) (key:List UInt8) (hl:L.length≤1000):oR_Table_find_2 key L=some ((place L key:Int),hadL L key):=by
 obtain ⟨e,e1,e2⟩:=rfind L key hl (oR_Table_find_2_L0_s L key) (fun _=>rfl)
 unfold oR_Table_find_2 oR_Table_find_2_L0
 rw [e1,Option.bind_some,e2]
end Go.Proofs.YtgahmammhclobaaGreat
