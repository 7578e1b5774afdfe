import Derived.Test.YtgahmammhclobaaGreatT1
set_option linter.all false
set_option linter.unusedSimpArgs false
namespace Go.Proofs.YtgahmammhclobaaGreat
theorem ibeq (a b:Int):(a == b)=decide (a=b):=lbeq_eq a b
def rightP (o:api_Op):Bool :=
 decide (1≤o.Kind) && decide (o.Kind≤4) && decide (1≤o.Key.length) && decide (o.Key.length≤8) && decide (o.Value.length≤16) && decide (o.Old.length≤16) &&
  (decide (o.Kind=2) || decide (o.Kind=4) || decide (o.Value=[])) && (decide (o.Kind=4) || decide (o.Old=[]))
theorem nil_beq (l:List UInt8):(l == ([]:List UInt8))=decide (l=[]):=by cases l <;> rfl
theorem right_plain (o:api_Op):table_Right o=some (rightP o):=by
 unfold table_Right table_Right_J0 table_Right_J3 table_Right_J2 table_Right_J1 rightP
 simp only [nil_beq,ibeq]
 by_cases h1:o.Kind < 1
 ·rw [dec_t h1,dec_f (show ¬ o.Kind=2 by omega),dec_f (show ¬ o.Kind=4 by omega),dec_f (show ¬ 1≤o.Kind by omega)]; simp [isL]
 by_cases h2:o.Kind > 4
 ·simp [h1,h2,isL,show ¬ o.Kind≤4 by omega,show ¬ o.Kind=2 by omega,show ¬ o.Kind=4 by omega]
 by_cases h3:o.Key=[]
 ·by_cases a:o.Kind=2 <;> by_cases b:o.Kind=4 <;> simp [h1,h2,h3,isL,a,b]
 have h3':1≤o.Key.length:=by
  cases e:o.Key with
  | nil=>exact absurd e h3
  | cons _ _=>simp
 by_cases h4:o.Key.length≤8
 case neg =>
  have:(o.Key.length:Int) > 8:=by omega
  by_cases a:o.Kind=2 <;> by_cases b:o.Kind=4 <;> simp [h1,h2,h3,h4,isL,a,b,this]
 by_cases h5:o.Value.length≤16
 case neg =>
  have:(o.Value.length:Int) > 16:=by omega
  by_cases a:o.Kind=2 <;> by_cases b:o.Kind=4 <;> simp [h1,h2,h3,h4,h5,isL,a,b,this]
 by_cases h6:o.Old.length≤16
 case neg =>
  have:(o.Old.length:Int) > 16:=by omega
  by_cases a:o.Kind=2 <;> by_cases b:o.Kind=4 <;> simp [h1,h2,h3,h4,h5,h6,isL,a,b,this]
 have e4:¬ (o.Key.length:Int) > 8:=by omega
 have e5:¬ (o.Value.length:Int) > 16:=by omega
 have e6:¬ (o.Old.length:Int) > 16:=by omega
 rw [dec_f h1,dec_f h2,dec_f e4,dec_f e5,dec_f e6,dec_f h3,dec_t (show 1≤o.Kind by omega),dec_t (show o.Kind≤4 by omega),dec_t h3',dec_t h4,dec_t h5,dec_t h6]
 by_cases a:o.Kind=2 <;> by_cases b:o.Kind=4 <;> by_cases c:o.Value=[] <;> simp [isL,a,b,c] <;> omega
theorem rright_plain (o:api_Op):oR_RightOp o=some (rightP o):=by
 unfold oR_RightOp oR_RightOp_J0 rightP
 simp only [nil_beq,ibeq]
 by_cases h1:o.Kind < 1
 ·simp [h1,isL,show ¬ 1≤o.Kind by omega]
 by_cases h2:o.Kind > 4
 ·simp [h1,h2,isL,show ¬ o.Kind≤4 by omega,show ¬ o.Kind=2 by omega,show ¬ o.Kind=4 by omega]
 by_cases h3:1≤o.Key.length
 case neg =>
  have:(o.Key.length:Int) < 1:=by omega
  simp [h1,h2,h3,isL,this]
 by_cases h4:o.Key.length≤8
 case neg =>
  have:(o.Key.length:Int) > 8:=by omega
  have h3':¬ (o.Key.length:Int) < 1:=by omega
  simp [h1,h2,h3',h4,isL,this]
 by_cases h5:o.Value.length≤16
 case neg =>
  have:(o.Value.length:Int) > 16:=by omega
  have h3':¬ (o.Key.length:Int) < 1:=by omega
  have h4':¬ (o.Key.length:Int) > 8:=by omega
  simp [h1,h2,h3',h4',h5,isL,this]
 by_cases h6:o.Old.length≤16
 case neg =>
  have:(o.Old.length:Int) > 16:=by omega
  have h3':¬ (o.Key.length:Int) < 1:=by omega
  have h4':¬ (o.Key.length:Int) > 8:=by omega
  have h5':¬ (o.Value.length:Int) > 16:=by omega
  simp [h1,h2,h3',h4',h5',h6,isL,this]
 have e3:¬ (o.Key.length:Int) < 1:=by omega
 have e4:¬ (o.Key.length:Int) > 8:=by omega
 have e5:¬ (o.Value.length:Int) > 16:=by omega
 have e6:¬ (o.Old.length:Int) > 16:=by omega
 rw [dec_f h1,dec_f h2,dec_f e3,dec_f e4,dec_f e5,dec_f e6,dec_t (show 1≤o.Kind by omega),dec_t (show o.Kind≤4 by omega),dec_t h3,dec_t h4,dec_t h5,dec_t h6]
 by_cases a:o.Kind=2 <;> by_cases b:o.Kind=4 <;> by_cases c:o.Value=[] <;> by_cases d:o.Old=[] <;> simp [isL,a,b,c,d] <;> omega
theorem right_kind {o:api_Op} (h:rightP o=true):1≤o.Kind∧o.Kind≤4:=by
 unfold rightP at h
 simp only [Bool.and_eq_true,decide_eq_true_eq] at h
 omega
def doP (o:api_Op) (L:List api_Pair):api_Answer × List api_Pair :=
 if rightP o=false then (⟨1,[]⟩,L)
 else if o.Kind=2 then
  if hadL L o.Key=true then (⟨0,[]⟩,L.set (place L o.Key) ⟨o.Key,o.Value⟩)
  else if L.length=8 then (⟨5,[]⟩,L) else (⟨0,[]⟩,insL L (place L o.Key) ⟨o.Key,o.Value⟩)
 else if hadL L o.Key=false then (⟨4,[]⟩,L)
 else if o.Kind=1 then (⟨0,(pAt L o.Key).Value⟩,L)
 else if o.Kind=4 then (if (pAt L o.Key).Value=o.Old then (⟨0,[]⟩,L.set (place L o.Key) ⟨o.Key,o.Value⟩) else (⟨6,(pAt L o.Key).Value⟩,L))
 else (⟨0,[]⟩,delL L (place L o.Key) ((place L o.Key:Int)+1))
def OkT (L:List api_Pair):Prop:=Rising L∧L.length≤8
theorem set_keys (L:List api_Pair) (k:Nat) (p:api_Pair) (h:k < L.length) (e:L[k].Key=p.Key):(L.set k p).map (·.Key)=L.map (·.Key):=by
 apply List.ext_getElem
 ·simp
 ·intro i h1 h2
  simp only [List.getElem_map,List.getElem_set]
  split
  ·next q=>subst q; exact e.symm
  ·rfl
theorem set_ok {L:List api_Pair} (h:OkT L) {key v:List UInt8} (hd:hadL L key=true):OkT (L.set (place L key) ⟨key,v⟩):=by
 have c:=had_yes hd
 have e:L[place L key].Key=key:=by rw [had_of L key c] at hd; simpa using hd
 refine ⟨?_,by rw [List.length_set]; exact h.2⟩
 unfold Rising
 rw [set_keys L _ _ c e]
 exact h.1
theorem ins_ok {L:List api_Pair} (h:OkT L) {key v:List UInt8} (hd:hadL L key=false) (hl:L.length≠8):OkT (insL L (place L key) ⟨key,v⟩):=by
 have pl:=place_le L key
 refine ⟨?_,by simp only [insL,List.length_append,List.length_take,List.length_cons,List.length_drop]; have:=h.2; omega⟩
 unfold Rising insL
 rw [Int.toNat_natCast,List.map_append,List.map_cons,List.pairwise_append]
 have hr:=h.1
 unfold Rising at hr
 have ht:∀ a ∈ (L.take (place L key)).map (·.Key),Op.bytesLess a key=true:=by
  intro a ha
  rw [List.mem_map] at ha
  obtain ⟨p,hp,rfl⟩:=ha
  obtain ⟨i,hi,rfl⟩:=List.mem_iff_getElem.1 hp
  simp only [List.length_take] at hi
  rw [List.getElem_take]
  exact place_lt key L i (by omega) (by omega)
 have hdr:∀ a ∈ (L.drop (place L key)).map (·.Key),Op.bytesLess key a=true:=by
  intro a ha
  rw [List.mem_map] at ha
  obtain ⟨p,hp,rfl⟩:=ha
  obtain ⟨i,hi,rfl⟩:=List.mem_iff_getElem.1 hp
  simp only [List.length_drop] at hi
  rw [List.getElem_drop]
  have c:place L key < L.length:=by omega
  have f:Op.bytesLess key L[place L key].Key=true:=by
   refine bl_total _ _ (place_ge key L c) (fun q=>?_)
   rw [had_of L key c,q] at hd
   simp at hd
  cases i with
  | zero=>simpa using f
  | succ i=>exact bl_trans _ _ _ f (rising_at h.1 (by omega) (by omega))
 refine ⟨?_, ?_, ?_⟩
 ·exact List.Pairwise.sublist ((List.take_sublist _ _).map _) hr
 ·rw [List.pairwise_cons]
  exact ⟨hdr,List.Pairwise.sublist ((List.drop_sublist _ _).map _) hr⟩
 ·intro a ha b hb
  rcases List.mem_cons.1 hb with rfl | hb
  ·exact ht a ha
  ·exact bl_trans _ _ _ (ht a ha) (hdr b hb)
theorem del_ok {L:List api_Pair} (h:OkT L) (k:Nat) (hk:k < L.length):OkT (delL L k ((k:Int)+1)):=by
 have e:delL L k ((k:Int)+1)=L.eraseIdx k:=by
  unfold delL
  rw [Int.toNat_natCast,show ((k:Int)+1).toNat=k+1 by omega,List.eraseIdx_eq_take_drop_succ]
 rw [e]
 exact ⟨List.Pairwise.sublist ((List.eraseIdx_sublist _ _).map _) h.1,Nat.le_trans (List.eraseIdx_sublist _ _).length_le h.2⟩
theorem do_ok {L:List api_Pair} (h:OkT L) (o:api_Op):OkT (doP o L).2:=by
 unfold doP
 split
 ·exact h
 split
 ·split
  ·next hd=>exact set_ok h hd
  ·next hd =>
   split
   ·exact h
   ·next hl=>exact ins_ok h (by simpa using hd) hl
 split
 ·exact h
 next hd =>
 have hd:hadL L o.Key=true:=by simpa using hd
 split
 ·exact h
 split
 ·split
  ·exact set_ok h hd
  ·exact h
 ·exact del_ok h _ (had_yes hd)
theorem gd32 {β:Type} {n:Nat} {x:Option β} (h:n≤100):gd (fitsB 32 n) x=x:=gd_fits (by omega) (by omega)
theorem setp {L:List api_Pair} {key v:List UInt8} (h:OkT L) (hd:hadL L key=true):(gd (fitsB 32 L.length) ((getI L (place L key:Int)).bind fun (x2:api_Pair)=>some (L.set (place L key:Int).toNat (⟨x2.Key,v⟩:api_Pair))))=some (L.set (place L key) ⟨key,v⟩):=by
 rw [gd32 (by have:=h.2; omega),pAt_eq (had_yes hd),Option.bind_some,pAt_key hd,Int.toNat_natCast]
theorem do2_plain (o:api_Op) (L:List api_Pair) (h:OkT L):table_Table_Do_2 o L=some (doP o L):=by
 have hl:=h.2
 have pl:=place_le L o.Key
 unfold table_Table_Do_2 table_Table_find_2 doP
 rw [right_plain,Option.bind_some,find_plain L o.Key h.1 (by omega)]
 cases hr:rightP o
 ·simp
 have hk:=right_kind hr
 simp only [Bool.not_true,cond_false,Option.bind_some,Bool.true_eq_false,if_false,ibeq]
 by_cases k2:o.Kind=2
 ·rw [dec_t k2,cond_true,if_pos k2]
  unfold table_Table_put_2 table_Table_set_2
  cases hd:hadL L o.Key
  ·rw [cond_false,if_neg (by simp),ibeq]
   by_cases l8:L.length=8
   ·rw [dec_t (by omega),if_pos l8]; rfl
   ·rw [dec_f (by omega),if_neg l8,cond_false,gd32 (by omega),gd_true (by simp [insB,fitsB]; omega)]; rfl
  ·rw [cond_true,setp h hd,if_pos rfl]; rfl
 rw [dec_f k2,cond_false,if_neg k2]
 cases hd:hadL L o.Key
 ·simp
 have hp:=pAt_eq (had_yes hd)
 simp only [Bool.not_true,cond_false,Bool.true_eq_false,if_false]
 by_cases k1:o.Kind=1
 ·rw [dec_t k1,cond_true,if_pos k1,hp]; rfl
 rw [dec_f k1,cond_false,if_neg k1]
 by_cases k4:o.Kind=4
 ·rw [dec_t k4,cond_true,if_pos k4]
  unfold table_Table_cas_2 table_Table_set_2
  rw [setp h hd,hp,Option.bind_some]
  by_cases q:(pAt L o.Key).Value=o.Old
  ·rw [if_pos q]; simp [q]
  ·have:((pAt L o.Key).Value == o.Old)=false:=by simpa using q
   rw [if_neg q,this]; rfl
 ·have c:=had_yes hd
  rw [dec_f k4,cond_false,if_neg k4,gd32 (by omega),wrap_id (by omega) (by omega),gd_true (by simp [delB]; omega)]
theorem rset (L:List api_Pair) (k:Nat) (p:api_Pair) (h:k < L.length):(L.take k ++ [p]) ++ L.drop (k+1)=L.set k p:=by
 rw [List.set_eq_take_append_cons_drop,if_pos h,List.append_assoc]
 rfl
theorem rdo2_plain (o:api_Op) (L:List api_Pair) (h:OkT L):oR_Table_Do_2 o L=some ((doP o L).1,(doP o L).2):=by
 have hl:=h.2
 have pl:=place_le L o.Key
 unfold oR_Table_Do_2 oR_Table_Do_2_J0 oR_Table_Do_2_J1 doP
 rw [rright_plain,Option.bind_some,rfind2 L o.Key (by omega)]
 cases hr:rightP o
 ·simp
 have hk:=right_kind hr
 simp only [Bool.not_true,cond_false,Option.bind_some,Bool.true_eq_false,if_false,ibeq]
 rw [slI_to L _ pl]
 by_cases k1:o.Kind=1
 ·have k2:¬ o.Kind=2:=by omega
  rw [dec_t k1,cond_true,if_neg k2,if_pos k1]
  cases hd:hadL L o.Key
  ·simp
  ·rw [pAt_eq (had_yes hd)]; simp
 rw [dec_f k1,cond_false]
 by_cases k2:o.Kind=2
 ·rw [dec_t k2,cond_true,if_pos k2]
  have lt:(L.take (place L o.Key)).length≤8:=by rw [List.length_take]; omega
  cases hd:hadL L o.Key
  ·simp only [Bool.not_false,cond_true]
   by_cases l8:L.length=8
   ·rw [dec_t (by omega),if_neg (by simp),if_pos l8]; rfl
   ·rw [dec_f (by omega),if_neg (by simp),if_neg l8,cond_false,Option.bind_some]
    simp only [isL,cond_false,Option.bind_some]
    rw [gd32 (by omega),gd32 (by rw [List.length_append]; simp only [List.length_singleton]; omega),slI_from L _ pl,Option.bind_some,gd32 (by simp only [List.length_append,List.length_singleton,List.length_drop]; omega)]
    unfold insL
    rw [Int.toNat_natCast,List.append_assoc]
    rfl
  ·have c:=had_yes hd
   simp only [Bool.not_true,cond_false,cond_true,Option.bind_some,isL,if_true]
   rw [gd32 (by omega),gd32 (by rw [List.length_append]; simp only [List.length_singleton]; omega),wrap_id (by omega) (by omega),succ_cast,slI_from L _ (by omega),Option.bind_some,gd32 (by simp only [List.length_append,List.length_singleton,List.length_drop]; omega),rset L _ _ c]
 rw [dec_f k2,cond_false,if_neg k2]
 by_cases k3:o.Kind=3
 ·rw [dec_t k3,cond_true]
  cases hd:hadL L o.Key
  ·simp
  ·have c:=had_yes hd
   have k4:¬ o.Kind=4:=by omega
   simp only [Bool.not_true,cond_false,Option.bind_some,Bool.true_eq_false,if_false]
   rw [if_neg k1,if_neg k4,gd32 (by rw [List.length_take]; omega),wrap_id (by omega) (by omega),succ_cast,slI_from L _ (by omega),Option.bind_some,gd32 (by simp only [List.length_append,List.length_take,List.length_drop]; omega)]
   unfold delL
   rw [Int.toNat_natCast,Int.toNat_natCast]
 rw [dec_f k3,cond_false]
 have k4:o.Kind=4:=by omega
 cases hd:hadL L o.Key
 ·simp
 have hp:=pAt_eq (had_yes hd)
 simp only [Bool.not_true,cond_false,Bool.true_eq_false,if_false]
 rw [if_neg k1,if_pos k4,hp,Option.bind_some,Option.bind_some,Option.bind_some,pAt_key hd,gd32 (by omega),Int.toNat_natCast]
 by_cases q:(pAt L o.Key).Value=o.Old
 ·rw [if_pos q]; simp [q]
 ·have:((pAt L o.Key).Value == o.Old)=false:=by simpa using q
  rw [if_neg q,this]; rfl
end Go.Proofs.YtgahmammhclobaaGreat
