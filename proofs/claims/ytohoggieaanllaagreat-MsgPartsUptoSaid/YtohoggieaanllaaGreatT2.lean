import Derived.Test.YtohoggieaanllaaGreatT1
set_option linter.all false
set_option linter.unusedSimpArgs false
namespace Go.Proofs.YtohoggieaanllaaGreat
theorem abI (a b:Int):(a==b)=decide (a=b):=WX a b
def nS (o:aY):Bool :=
 decide (1≤o.Kind)&&decide (o.Kind≤4)&&decide (1≤o.Key.length)&&decide (o.Key.length≤8)&&decide (o.Value.length≤16)&&decide (o.Old.length≤16) &&
  (decide (o.Kind=2) || decide (o.Kind=4) || decide (o.Value=[]))&&(decide (o.Kind=4) || decide (o.Old=[]))
theorem acF (l:List UInt8):(l==([]:List UInt8))=decide (l=[]):=by cases l<;>rfl
theorem P8 (o:aY):vN o=some (nS o):=by
 unfold vN wU wX wW wV nS
 simp only [acF,abI]
 by_cases h1:o.Kind < 1
 ·rw [bI h1,aZ (show ¬ o.Kind=2 by omega),aZ (show ¬ o.Kind=4 by omega),aZ (show ¬ 1≤o.Kind by omega)];simp [mW]
 by_cases h2:o.Kind > 4
 ·simp [h1,h2,mW,show ¬ o.Kind≤4 by omega,show ¬ o.Kind=2 by omega,show ¬ o.Kind=4 by omega]
 by_cases h3:o.Key=[]
 ·by_cases a:o.Kind=2<;>by_cases b:o.Kind=4<;>simp [h1,h2,h3,mW,a,b]
 have h3':1≤o.Key.length:=by
  cases e:o.Key with
  | nil=>exact absurd e h3
  | cons _ _=>simp
 by_cases h4:o.Key.length≤8
 case neg =>
  have:(o.Key.length:Int) > 8:=by omega
  by_cases a:o.Kind=2<;>by_cases b:o.Kind=4<;>simp [h1,h2,h3,h4,mW,a,b,this]
 by_cases h5:o.Value.length≤16
 case neg =>
  have:(o.Value.length:Int) > 16:=by omega
  by_cases a:o.Kind=2<;>by_cases b:o.Kind=4<;>simp [h1,h2,h3,h4,h5,mW,a,b,this]
 by_cases h6:o.Old.length≤16
 case neg =>
  have:(o.Old.length:Int) > 16:=by omega
  by_cases a:o.Kind=2<;>by_cases b:o.Kind=4<;>simp [h1,h2,h3,h4,h5,h6,mW,a,b,this]
 have e4:¬ (o.Key.length:Int) > 8:=by omega
 have e5:¬ (o.Value.length:Int) > 16:=by omega
 have e6:¬ (o.Old.length:Int) > 16:=by omega
 rw [aZ h1,aZ h2,aZ e4,aZ e5,aZ e6,aZ h3,bI (show 1≤o.Kind by omega),bI (show o.Kind≤4 by omega),bI h3',bI h4,bI h5,bI h6]
 by_cases a:o.Kind=2<;>by_cases b:o.Kind=4<;>by_cases c:o.Value=[]<;>simp [mW,a,b,c]<;>omega
theorem F6 (o:aY):uZ o=some (nS o):=by
 unfold uZ yP nS
 simp only [acF,abI]
 by_cases h1:o.Kind < 1
 ·simp [h1,mW,show ¬ 1≤o.Kind by omega]
 by_cases h2:o.Kind > 4
 ·simp [h1,h2,mW,show ¬ o.Kind≤4 by omega,show ¬ o.Kind=2 by omega,show ¬ o.Kind=4 by omega]
 by_cases h3:1≤o.Key.length
 case neg =>
  have:(o.Key.length:Int) < 1:=by omega
  simp [h1,h2,h3,mW,this]
 by_cases h4:o.Key.length≤8
 case neg =>
  have:(o.Key.length:Int) > 8:=by omega
  have h3':¬ (o.Key.length:Int) < 1:=by omega
  simp [h1,h2,h3',h4,mW,this]
 by_cases h5:o.Value.length≤16
 case neg =>
  have:(o.Value.length:Int) > 16:=by omega
  have h3':¬ (o.Key.length:Int) < 1:=by omega
  have h4':¬ (o.Key.length:Int) > 8:=by omega
  simp [h1,h2,h3',h4',h5,mW,this]
 by_cases h6:o.Old.length≤16
 case neg =>
  have:(o.Old.length:Int) > 16:=by omega
  have h3':¬ (o.Key.length:Int) < 1:=by omega
  have h4':¬ (o.Key.length:Int) > 8:=by omega
  have h5':¬ (o.Value.length:Int) > 16:=by omega
  simp [h1,h2,h3',h4',h5',h6,mW,this]
 have e3:¬ (o.Key.length:Int) < 1:=by omega
 have e4:¬ (o.Key.length:Int) > 8:=by omega
 have e5:¬ (o.Value.length:Int) > 16:=by omega
 have e6:¬ (o.Old.length:Int) > 16:=by omega
 rw [aZ h1,aZ h2,aZ e3,aZ e4,aZ e5,aZ e6,bI (show 1≤o.Kind by omega),bI (show o.Kind≤4 by omega),bI h3,bI h4,bI h5,bI h6]
 by_cases a:o.Kind=2<;>by_cases b:o.Kind=4<;>by_cases c:o.Value=[]<;>by_cases d:o.Old=[]<;>simp [mW,a,b,c,d]<;>omega
theorem LY {o:aY} (h:nS o=true):1≤o.Kind∧o.Kind≤4:=by
 unfold nS at h
 simp only [Bool.and_eq_true,decide_eq_true_eq] at h
 omega
def T_ (o:aY) (L:List au):aA×List au :=
 if nS o=false then (⟨1,[]⟩,L)
 else if o.Kind=2 then
  if yJ L o.Key=true then (⟨0,[]⟩,L.set (place L o.Key) ⟨o.Key,o.Value⟩)
  else if L.length=8 then (⟨5,[]⟩,L) else (⟨0,[]⟩,GU L (place L o.Key) ⟨o.Key,o.Value⟩)
 else if yJ L o.Key=false then (⟨4,[]⟩,L)
 else if o.Kind=1 then (⟨0,(Z7 L o.Key).Value⟩,L)
 else if o.Kind=4 then (if (Z7 L o.Key).Value=o.Old then (⟨0,[]⟩,L.set (place L o.Key) ⟨o.Key,o.Value⟩) else (⟨6,(Z7 L o.Key).Value⟩,L))
 else (⟨0,[]⟩,JX L (place L o.Key) ((place L o.Key:Int)+1))
def Z8 (L:List au):Prop:=LX L∧L.length≤8
theorem ahG (L:List au) (k:Nat) (p:au) (h:k < L.length) (e:L[k].Key=p.Key):(L.set k p).map (·.Key)=L.map (·.Key):=by
 apply List.ext_getElem
 ·simp
 ·intro i h1 h2
  simp only [List.getElem_map,List.getElem_set]
  split
  ·next q=>subst q;exact e.symm
  ·rfl
theorem ahH {L:List au} (h:Z8 L) {key v:List UInt8} (hd:yJ L key=true):Z8 (L.set (place L key) ⟨key,v⟩):=by
 have c:=oW hd
 have e:L[place L key].Key=key:=by rw [TN L key c] at hd;simpa using hd
 refine ⟨?_,by rw [List.length_set];exact h.2⟩
 unfold LX
 rw [ahG L _ _ c e]
 exact h.1
theorem alW {L:List au} (h:Z8 L) {key v:List UInt8} (hd:yJ L key=false) (hl:L.length≠8):Z8 (GU L (place L key) ⟨key,v⟩):=by
 have pl:=NC L key
 refine ⟨?_,by simp only [GU,List.length_append,List.length_take,List.length_cons,List.length_drop];have:=h.2;omega⟩
 unfold LX GU
 rw [Int.toNat_natCast,List.map_append,List.map_cons,List.pairwise_append]
 have hr:=h.1
 unfold LX at hr
 have ht:∀ a∈(L.take (place L key)).map (·.Key),Op.bytesLess a key=true:=by
  intro a ha
  rw [List.mem_map] at ha
  obtain ⟨p,hp,rfl⟩:=ha
  obtain ⟨i,hi,rfl⟩:=List.mem_iff_getElem.1 hp
  simp only [List.length_take] at hi
  rw [List.getElem_take]
  exact ZM key L i (by omega) (by omega)
 have hdr:∀ a∈(L.drop (place L key)).map (·.Key),Op.bytesLess key a=true:=by
  intro a ha
  rw [List.mem_map] at ha
  obtain ⟨p,hp,rfl⟩:=ha
  obtain ⟨i,hi,rfl⟩:=List.mem_iff_getElem.1 hp
  simp only [List.length_drop] at hi
  rw [List.getElem_drop]
  have c:place L key < L.length:=by omega
  have f:Op.bytesLess key L[place L key].Key=true:=by
   refine ZL _ _ (TM key L c) (λq=>?_)
   rw [TN L key c,q] at hd
   simp at hd
  cases i with
  | zero=>simpa using f
  | succ i=>exact JA _ _ _ f (O6 h.1 (by omega) (by omega))
 refine ⟨?_, ?_, ?_⟩
 ·exact List.Pairwise.sublist ((List.take_sublist _ _).map _) hr
 ·rw [List.pairwise_cons]
  exact ⟨hdr,List.Pairwise.sublist ((List.drop_sublist _ _).map _) hr⟩
 ·intro a ha b hb
  rcases List.mem_cons.1 hb with rfl | hb
  ·exact ht a ha
  ·exact JA _ _ _ (ht a ha) (hdr b hb)
theorem alX {L:List au} (h:Z8 L) (k:Nat) (hk:k < L.length):Z8 (JX L k ((k:Int)+1)):=by
 have e:JX L k ((k:Int)+1)=L.eraseIdx k:=by
  unfold JX
  rw [Int.toNat_natCast,show ((k:Int)+1).toNat=k+1 by omega,List.eraseIdx_eq_take_drop_succ]
 rw [e]
 exact ⟨List.Pairwise.sublist ((List.eraseIdx_sublist _ _).map _) h.1,Nat.le_trans (List.eraseIdx_sublist _ _).length_le h.2⟩
theorem alb {L:List au} (h:Z8 L) (o:aY):Z8 (T_ o L).2:=by
 unfold T_
 split
 ·exact h
 split
 ·split
  ·next hd=>exact ahH h hd
  ·next hd =>
   split
   ·exact h
   ·next hl=>exact alW h (by simpa using hd) hl
 split
 ·exact h
 next hd =>
 have hd:yJ L o.Key=true:=by simpa using hd
 split
 ·exact h
 split
 ·split
  ·exact ahH h hd
  ·exact h
 ·exact alX h _ (oW hd)
theorem z8 {β:Type} {n:Nat} {x:Option β} (h:n≤100):gd (dB 32 n) x=x:=aiH (by omega) (by omega)
theorem ang {L:List au} {key v:List UInt8} (h:Z8 L) (hd:yJ L key=true):(gd (dB 32 L.length) ((bW L (place L key:Int)).bind λ(x2:au)=>some (L.set (place L key:Int).toNat (⟨x2.Key,v⟩:au))))=some (L.set (place L key) ⟨key,v⟩):=by
 rw [z8 (by have:=h.2;omega),O5 (oW hd),Option.bind_some,XH hd,Int.toNat_natCast]
theorem adM (o:aY) (L:List au) (h:Z8 L):nL o L=some (T_ o L):=by
 have hl:=h.2
 have pl:=NC L o.Key
 unfold nL oK T_
 rw [P8,Option.bind_some,abH L o.Key h.1 (by omega)]
 cases hr:nS o
 ·simp
 have hk:=LY hr
 simp only [Bool.not_true,cond_false,Option.bind_some,Bool.true_eq_false,if_false,abI]
 by_cases k2:o.Kind=2
 ·rw [bI k2,cond_true,if_pos k2]
  unfold qo jT
  cases hd:yJ L o.Key
  ·rw [cond_false,if_neg (by simp),abI]
   by_cases l8:L.length=8
   ·rw [bI (by omega),if_pos l8];rfl
   ·rw [aZ (by omega),if_neg l8,cond_false,z8 (by omega),uI (by simp [aaC,dB];omega)];rfl
  ·rw [cond_true,ang h hd,if_pos rfl];rfl
 rw [aZ k2,cond_false,if_neg k2]
 cases hd:yJ L o.Key
 ·simp
 have hp:=O5 (oW hd)
 simp only [Bool.not_true,cond_false,Bool.true_eq_false,if_false]
 by_cases k1:o.Kind=1
 ·rw [bI k1,cond_true,if_pos k1,hp];rfl
 rw [aZ k1,cond_false,if_neg k1]
 by_cases k4:o.Kind=4
 ·rw [bI k4,cond_true,if_pos k4]
  unfold qm jT
  rw [ang h hd,hp,Option.bind_some]
  by_cases q:(Z7 L o.Key).Value=o.Old
  ·rw [if_pos q];simp [q]
  ·have:((Z7 L o.Key).Value==o.Old)=false:=by simpa using q
   rw [if_neg q,this];rfl
 ·have c:=oW hd
  rw [aZ k4,cond_false,if_neg k4,z8 (by omega),fG (by omega) (by omega),uI (by simp [aiE];omega)]
theorem anh (L:List au) (k:Nat) (p:au) (h:k < L.length):(L.take k++[p])++L.drop (k+1)=L.set k p:=by
 rw [List.set_eq_take_append_cons_drop,if_pos h,List.append_assoc]
 rfl
theorem abJ (o:aY) (L:List au) (h:Z8 L):um o L=some ((T_ o L).1,(T_ o L).2):=by
 have hl:=h.2
 have pl:=NC L o.Key
 unfold um rY rZ T_
 rw [F6,Option.bind_some,ahF L o.Key (by omega)]
 cases hr:nS o
 ·simp
 have hk:=LY hr
 simp only [Bool.not_true,cond_false,Option.bind_some,Bool.true_eq_false,if_false,abI]
 rw [aaH L _ pl]
 by_cases k1:o.Kind=1
 ·have k2:¬ o.Kind=2:=by omega
  rw [bI k1,cond_true,if_neg k2,if_pos k1]
  cases hd:yJ L o.Key
  ·simp
  ·rw [O5 (oW hd)];simp
 rw [aZ k1,cond_false]
 by_cases k2:o.Kind=2
 ·rw [bI k2,cond_true,if_pos k2]
  have lt:(L.take (place L o.Key)).length≤8:=by rw [List.length_take];omega
  cases hd:yJ L o.Key
  ·simp only [Bool.not_false,cond_true]
   by_cases l8:L.length=8
   ·rw [bI (by omega),if_neg (by simp),if_pos l8];rfl
   ·rw [aZ (by omega),if_neg (by simp),if_neg l8,cond_false,Option.bind_some]
    simp only [mW,cond_false,Option.bind_some]
    rw [z8 (by omega),z8 (by rw [List.length_append];simp only [List.length_singleton];omega),Ep L _ pl,Option.bind_some,z8 (by simp only [List.length_append,List.length_singleton,List.length_drop];omega)]
    unfold GU
    rw [Int.toNat_natCast,List.append_assoc]
    rfl
  ·have c:=oW hd
   simp only [Bool.not_true,cond_false,cond_true,Option.bind_some,mW,if_true]
   rw [z8 (by omega),z8 (by rw [List.length_append];simp only [List.length_singleton];omega),fG (by omega) (by omega),fE,Ep L _ (by omega),Option.bind_some,z8 (by simp only [List.length_append,List.length_singleton,List.length_drop];omega),anh L _ _ c]
 rw [aZ k2,cond_false,if_neg k2]
 by_cases k3:o.Kind=3
 ·rw [bI k3,cond_true]
  cases hd:yJ L o.Key
  ·simp
  ·have c:=oW hd
   have k4:¬ o.Kind=4:=by omega
   simp only [Bool.not_true,cond_false,Option.bind_some,Bool.true_eq_false,if_false]
   rw [if_neg k1,if_neg k4,z8 (by rw [List.length_take];omega),fG (by omega) (by omega),fE,Ep L _ (by omega),Option.bind_some,z8 (by simp only [List.length_append,List.length_take,List.length_drop];omega)]
   unfold JX
   rw [Int.toNat_natCast,Int.toNat_natCast]
 rw [aZ k3,cond_false]
 have k4:o.Kind=4:=by omega
 cases hd:yJ L o.Key
 ·simp
 have hp:=O5 (oW hd)
 simp only [Bool.not_true,cond_false,Bool.true_eq_false,if_false]
 rw [if_neg k1,if_pos k4,hp,Option.bind_some,Option.bind_some,Option.bind_some,XH hd,z8 (by omega),Int.toNat_natCast]
 by_cases q:(Z7 L o.Key).Value=o.Old
 ·rw [if_pos q];simp [q]
 ·have:((Z7 L o.Key).Value==o.Old)=false:=by simpa using q
  rw [if_neg q,this];rfl
end Go.Proofs.YtohoggieaanllaaGreat
