import Derived.Test.YtohoggieaanllaaGreatT1
set_option linter.all false
set_option linter.unusedSimpArgs false
namespace Go.Proofs.YtohoggieaanllaaGreat
theorem ahb (a b:Int):(a==b)=decide (a=b):=aj8 a b
def qU (o:bD):Bool :=
 decide (1≤o.Kind)&&decide (o.Kind≤4)&&decide (1≤o.Key.length)&&decide (o.Key.length≤8)&&decide (o.Value.length≤16)&&decide (o.Old.length≤16) &&
  (decide (o.Kind=2) || decide (o.Kind=4) || decide (o.Value=[]))&&(decide (o.Kind=4) || decide (o.Old=[]))
theorem ako (l:List UInt8):(l==([]:List UInt8))=decide (l=[]):=by cases l<;>rfl
theorem Xj (o:bD):zJ o=some (qU o):=by
 unfold zJ Av Az Ay Aw qU
 simp only [ako,ahb]
 by_cases h1:o.Kind < 1
 ·rw [aZ h1,aV (show ¬ o.Kind=2 by omega),aV (show ¬ o.Kind=4 by omega),aV (show ¬ 1≤o.Kind by omega)];simp [jI]
 by_cases h2:o.Kind > 4
 ·simp [h1,h2,jI,show ¬ o.Kind≤4 by omega,show ¬ o.Kind=2 by omega,show ¬ o.Kind=4 by omega]
 by_cases h3:o.Key=[]
 ·by_cases a:o.Kind=2<;>by_cases b:o.Kind=4<;>simp [h1,h2,h3,jI,a,b]
 have h3':1≤o.Key.length:=by
  cases e:o.Key with
  | nil=>exact absurd e h3
  | cons _ _=>simp
 by_cases h4:o.Key.length≤8
 case neg =>
  have:(o.Key.length:Int) > 8:=by omega
  by_cases a:o.Kind=2<;>by_cases b:o.Kind=4<;>simp [h1,h2,h3,h4,jI,a,b,this]
 by_cases h5:o.Value.length≤16
 case neg =>
  have:(o.Value.length:Int) > 16:=by omega
  by_cases a:o.Kind=2<;>by_cases b:o.Kind=4<;>simp [h1,h2,h3,h4,h5,jI,a,b,this]
 by_cases h6:o.Old.length≤16
 case neg =>
  have:(o.Old.length:Int) > 16:=by omega
  by_cases a:o.Kind=2<;>by_cases b:o.Kind=4<;>simp [h1,h2,h3,h4,h5,h6,jI,a,b,this]
 have e4:¬ (o.Key.length:Int) > 8:=by omega
 have e5:¬ (o.Value.length:Int) > 16:=by omega
 have e6:¬ (o.Old.length:Int) > 16:=by omega
 rw [aV h1,aV h2,aV e4,aV e5,aV e6,aV h3,aZ (show 1≤o.Kind by omega),aZ (show o.Kind≤4 by omega),aZ h3',aZ h4,aZ h5,aZ h6]
 by_cases a:o.Kind=2<;>by_cases b:o.Kind=4<;>by_cases c:o.Value=[]<;>simp [jI,a,b,c]<;>omega
theorem Lr (o:bD):yV o=some (qU o):=by
 unfold yV Ct qU
 simp only [ako,ahb]
 by_cases h1:o.Kind < 1
 ·simp [h1,jI,show ¬ 1≤o.Kind by omega]
 by_cases h2:o.Kind > 4
 ·simp [h1,h2,jI,show ¬ o.Kind≤4 by omega,show ¬ o.Kind=2 by omega,show ¬ o.Kind=4 by omega]
 by_cases h3:1≤o.Key.length
 case neg =>
  have:(o.Key.length:Int) < 1:=by omega
  simp [h1,h2,h3,jI,this]
 by_cases h4:o.Key.length≤8
 case neg =>
  have:(o.Key.length:Int) > 8:=by omega
  have h3':¬ (o.Key.length:Int) < 1:=by omega
  simp [h1,h2,h3',h4,jI,this]
 by_cases h5:o.Value.length≤16
 case neg =>
  have:(o.Value.length:Int) > 16:=by omega
  have h3':¬ (o.Key.length:Int) < 1:=by omega
  have h4':¬ (o.Key.length:Int) > 8:=by omega
  simp [h1,h2,h3',h4',h5,jI,this]
 by_cases h6:o.Old.length≤16
 case neg =>
  have:(o.Old.length:Int) > 16:=by omega
  have h3':¬ (o.Key.length:Int) < 1:=by omega
  have h4':¬ (o.Key.length:Int) > 8:=by omega
  have h5':¬ (o.Value.length:Int) > 16:=by omega
  simp [h1,h2,h3',h4',h5',h6,jI,this]
 have e3:¬ (o.Key.length:Int) < 1:=by omega
 have e4:¬ (o.Key.length:Int) > 8:=by omega
 have e5:¬ (o.Value.length:Int) > 16:=by omega
 have e6:¬ (o.Old.length:Int) > 16:=by omega
 rw [aV h1,aV h2,aV e3,aV e4,aV e5,aV e6,aZ (show 1≤o.Kind by omega),aZ (show o.Kind≤4 by omega),aZ h3,aZ h4,aZ h5,aZ h6]
 by_cases a:o.Kind=2<;>by_cases b:o.Kind=4<;>by_cases c:o.Value=[]<;>by_cases d:o.Old=[]<;>simp [jI,a,b,c,d]<;>omega
theorem Sm {o:bD} (h:qU o=true):1≤o.Kind∧o.Kind≤4:=by
 unfold qU at h
 simp only [Bool.and_eq_true,decide_eq_true_eq] at h
 omega
def doP (o:bD) (L:List au):aD×List au :=
 if qU o=false then (⟨1,[]⟩,L)
 else if o.Kind=2 then
  if Ch L o.Key=true then (⟨0,[]⟩,L.set (place L o.Key) ⟨o.Key,o.Value⟩)
  else if L.length=8 then (⟨5,[]⟩,L) else (⟨0,[]⟩,MK L (place L o.Key) ⟨o.Key,o.Value⟩)
 else if Ch L o.Key=false then (⟨4,[]⟩,L)
 else if o.Kind=1 then (⟨0,(pAt L o.Key).Value⟩,L)
 else if o.Kind=4 then (if (pAt L o.Key).Value=o.Old then (⟨0,[]⟩,L.set (place L o.Key) ⟨o.Key,o.Value⟩) else (⟨6,(pAt L o.Key).Value⟩,L))
 else (⟨0,[]⟩,GD L (place L o.Key) ((place L o.Key:Int)+1))
def OkT (L:List au):Prop:=Sk L∧L.length≤8
theorem aqk (L:List au) (k:Nat) (p:au) (h:k < L.length) (e:L[k].Key=p.Key):(L.set k p).map (·.Key)=L.map (·.Key):=by
 apply List.ext_getElem
 ·simp
 ·intro i h1 h2
  simp only [List.getElem_map,List.getElem_set]
  split
  ·next q=>subst q;exact e.symm
  ·rfl
theorem aql {L:List au} (h:OkT L) {key v:List UInt8} (hd:Ch L key=true):OkT (L.set (place L key) ⟨key,v⟩):=by
 have c:=sD hd
 have e:L[place L key].Key=key:=by rw [aaD L key c] at hd;simpa using hd
 refine ⟨?_,by rw [List.length_set];exact h.2⟩
 unfold Sk
 rw [aqk L _ _ c e]
 exact h.1
theorem avZ {L:List au} (h:OkT L) {key v:List UInt8} (hd:Ch L key=false) (hl:L.length≠8):OkT (MK L (place L key) ⟨key,v⟩):=by
 have pl:=UD L key
 refine ⟨?_,by simp only [MK,List.length_append,List.length_take,List.length_cons,List.length_drop];have:=h.2;omega⟩
 unfold Sk MK
 rw [Int.toNat_natCast,List.map_append,List.map_cons,List.pairwise_append]
 have hr:=h.1
 unfold Sk at hr
 have ht:∀ a∈(L.take (place L key)).map (·.Key),Op.bytesLess a key=true:=by
  intro a ha
  rw [List.mem_map] at ha
  obtain ⟨p,hp,rfl⟩:=ha
  obtain ⟨i,hi,rfl⟩:=List.mem_iff_getElem.1 hp
  simp only [List.length_take] at hi
  rw [List.getElem_take]
  exact aha key L i (by omega) (by omega)
 have hdr:∀ a∈(L.drop (place L key)).map (·.Key),Op.bytesLess key a=true:=by
  intro a ha
  rw [List.mem_map] at ha
  obtain ⟨p,hp,rfl⟩:=ha
  obtain ⟨i,hi,rfl⟩:=List.mem_iff_getElem.1 hp
  simp only [List.length_drop] at hi
  rw [List.getElem_drop]
  have c:place L key < L.length:=by omega
  have f:Op.bytesLess key L[place L key].Key=true:=by
   refine ag9 _ _ (aaC key L c) (λq=>?_)
   rw [aaD L key c,q] at hd
   simp at hd
  cases i with
  | zero=>simpa using f
  | succ i=>exact Pm _ _ _ f (V_ h.1 (by omega) (by omega))
 refine ⟨?_, ?_, ?_⟩
 ·exact List.Pairwise.sublist ((List.take_sublist _ _).map _) hr
 ·rw [List.pairwise_cons]
  exact ⟨hdr,List.Pairwise.sublist ((List.drop_sublist _ _).map _) hr⟩
 ·intro a ha b hb
  rcases List.mem_cons.1 hb with rfl | hb
  ·exact ht a ha
  ·exact Pm _ _ _ (ht a ha) (hdr b hb)
theorem av0 {L:List au} (h:OkT L) (k:Nat) (hk:k < L.length):OkT (GD L k ((k:Int)+1)):=by
 have e:GD L k ((k:Int)+1)=L.eraseIdx k:=by
  unfold GD
  rw [Int.toNat_natCast,show ((k:Int)+1).toNat=k+1 by omega,List.eraseIdx_eq_take_drop_succ]
 rw [e]
 exact ⟨List.Pairwise.sublist ((List.eraseIdx_sublist _ _).map _) h.1,Nat.le_trans (List.eraseIdx_sublist _ _).length_le h.2⟩
theorem avd {L:List au} (h:OkT L) (o:bD):OkT (doP o L).2:=by
 unfold doP
 split
 ·exact h
 split
 ·split
  ·next hd=>exact aql h hd
  ·next hd =>
   split
   ·exact h
   ·next hl=>exact avZ h (by simpa using hd) hl
 split
 ·exact h
 next hd =>
 have hd:Ch L o.Key=true:=by simpa using hd
 split
 ·exact h
 split
 ·split
  ·exact aql h hd
  ·exact h
 ·exact av0 h _ (sD hd)
theorem Ci {β:Type} {n:Nat} {x:Option β} (h:n≤100):gd (dh 32 n) x=x:=arx (by omega) (by omega)
theorem axw {L:List au} {key v:List UInt8} (h:OkT L) (hd:Ch L key=true):(gd (dh 32 L.length) ((bO L (place L key:Int)).bind λ(x2:au)=>some (L.set (place L key:Int).toNat (⟨x2.Key,v⟩:au))))=some (L.set (place L key) ⟨key,v⟩):=by
 rw [Ci (by have:=h.2;omega),V9 (sD hd),Option.bind_some,aeP hd,Int.toNat_natCast]
theorem alV (o:bD) (L:List au) (h:OkT L):qN o L=some (doP o L):=by
 have hl:=h.2
 have pl:=UD L o.Key
 unfold qN rW doP
 rw [Xj,Option.bind_some,ajs L o.Key h.1 (by omega)]
 cases hr:qU o
 ·simp
 have hk:=Sm hr
 simp only [Bool.not_true,cond_false,Option.bind_some,Bool.true_eq_false,if_false,ahb]
 by_cases k2:o.Kind=2
 ·rw [aZ k2,cond_true,if_pos k2]
  unfold tY lM
  cases hd:Ch L o.Key
  ·rw [cond_false,if_neg (by simp),ahb]
   by_cases l8:L.length=8
   ·rw [aZ (by omega),if_pos l8];rfl
   ·rw [aV (by omega),if_neg l8,cond_false,Ci (by omega),jK (by simp [ah0,dh];omega)];rfl
  ·rw [cond_true,axw h hd,if_pos rfl];rfl
 rw [aV k2,cond_false,if_neg k2]
 cases hd:Ch L o.Key
 ·simp
 have hp:=V9 (sD hd)
 simp only [Bool.not_true,cond_false,Bool.true_eq_false,if_false]
 by_cases k1:o.Kind=1
 ·rw [aZ k1,cond_true,if_pos k1,hp];rfl
 rw [aV k1,cond_false,if_neg k1]
 by_cases k4:o.Kind=4
 ·rw [aZ k4,cond_true,if_pos k4]
  unfold tX lM
  rw [axw h hd,hp,Option.bind_some]
  by_cases q:(pAt L o.Key).Value=o.Old
  ·rw [if_pos q];simp [q]
  ·have:((pAt L o.Key).Value==o.Old)=false:=by simpa using q
   rw [if_neg q,this];rfl
 ·have c:=sD hd
  rw [aV k4,cond_false,if_neg k4,Ci (by omega),bU (by omega) (by omega),jK (by simp [akY];omega)]
theorem axx (L:List au) (k:Nat) (p:au) (h:k < L.length):(L.take k++[p])++L.drop (k+1)=L.set k p:=by
 rw [List.set_eq_take_append_cons_drop,if_pos h,List.append_assoc]
 rfl
theorem ajt (o:bD) (L:List au) (h:OkT L):xY o L=some ((doP o L).1,(doP o L).2):=by
 have hl:=h.2
 have pl:=UD L o.Key
 unfold xY vW vX doP
 rw [Lr,Option.bind_some,aqj L o.Key (by omega)]
 cases hr:qU o
 ·simp
 have hk:=Sm hr
 simp only [Bool.not_true,cond_false,Option.bind_some,Bool.true_eq_false,if_false,ahb]
 rw [adW L _ pl]
 by_cases k1:o.Kind=1
 ·have k2:¬ o.Kind=2:=by omega
  rw [aZ k1,cond_true,if_neg k2,if_pos k1]
  cases hd:Ch L o.Key
  ·simp
  ·rw [V9 (sD hd)];simp
 rw [aV k1,cond_false]
 by_cases k2:o.Kind=2
 ·rw [aZ k2,cond_true,if_pos k2]
  have lt:(L.take (place L o.Key)).length≤8:=by rw [List.length_take];omega
  cases hd:Ch L o.Key
  ·simp only [Bool.not_false,cond_true]
   by_cases l8:L.length=8
   ·rw [aZ (by omega),if_neg (by simp),if_pos l8];rfl
   ·rw [aV (by omega),if_neg (by simp),if_neg l8,cond_false,Option.bind_some]
    simp only [jI,cond_false,Option.bind_some]
    rw [Ci (by omega),Ci (by rw [List.length_append];simp only [List.length_singleton];omega),uK L _ pl,Option.bind_some,Ci (by simp only [List.length_append,List.length_singleton,List.length_drop];omega)]
    unfold MK
    rw [Int.toNat_natCast,List.append_assoc]
    rfl
  ·have c:=sD hd
   simp only [Bool.not_true,cond_false,cond_true,Option.bind_some,jI,if_true]
   rw [Ci (by omega),Ci (by rw [List.length_append];simp only [List.length_singleton];omega),bU (by omega) (by omega),cO,uK L _ (by omega),Option.bind_some,Ci (by simp only [List.length_append,List.length_singleton,List.length_drop];omega),axx L _ _ c]
 rw [aV k2,cond_false,if_neg k2]
 by_cases k3:o.Kind=3
 ·rw [aZ k3,cond_true]
  cases hd:Ch L o.Key
  ·simp
  ·have c:=sD hd
   have k4:¬ o.Kind=4:=by omega
   simp only [Bool.not_true,cond_false,Option.bind_some,Bool.true_eq_false,if_false]
   rw [if_neg k1,if_neg k4,Ci (by rw [List.length_take];omega),bU (by omega) (by omega),cO,uK L _ (by omega),Option.bind_some,Ci (by simp only [List.length_append,List.length_take,List.length_drop];omega)]
   unfold GD
   rw [Int.toNat_natCast,Int.toNat_natCast]
 rw [aV k3,cond_false]
 have k4:o.Kind=4:=by omega
 cases hd:Ch L o.Key
 ·simp
 have hp:=V9 (sD hd)
 simp only [Bool.not_true,cond_false,Bool.true_eq_false,if_false]
 rw [if_neg k1,if_pos k4,hp,Option.bind_some,Option.bind_some,Option.bind_some,aeP hd,Ci (by omega),Int.toNat_natCast]
 by_cases q:(pAt L o.Key).Value=o.Old
 ·rw [if_pos q];simp [q]
 ·have:((pAt L o.Key).Value==o.Old)=false:=by simpa using q
  rw [if_neg q,this];rfl
end Go.Proofs.YtohoggieaanllaaGreat
