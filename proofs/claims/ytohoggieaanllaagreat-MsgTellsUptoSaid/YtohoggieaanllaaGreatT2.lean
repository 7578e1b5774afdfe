import Derived.Test.YtohoggieaanllaaGreatT1
set_option linter.all false
set_option linter.unusedSimpArgs false
namespace Go.Proofs.YtohoggieaanllaaGreat
theorem ahO (a b:Int):(a==b)=decide (a=b):=aeA a b
def sj (o:bE):Bool :=
 decide (1≤o.Kind)&&decide (o.Kind≤4)&&decide (1≤o.Key.length)&&decide (o.Key.length≤8)&&decide (o.Value.length≤16)&&decide (o.Old.length≤16) &&
  (decide (o.Kind=2) || decide (o.Kind=4) || decide (o.Value=[]))&&(decide (o.Kind=4) || decide (o.Old=[]))
theorem akK (l:List UInt8):(l==([]:List UInt8))=decide (l=[]):=by cases l<;>rfl
theorem XV (o:bE):Ab o=some (sj o):=by
 unfold Ab Bj Bo Bn Bl sj
 simp only [akK,ahO]
 by_cases h1:o.Kind < 1
 ·rw [bf h1,aT (show ¬ o.Kind=2 by omega),aT (show ¬ o.Kind=4 by omega),aT (show ¬ 1≤o.Kind by omega)];simp [jO]
 by_cases h2:o.Kind > 4
 ·simp [h1,h2,jO,show ¬ o.Kind≤4 by omega,show ¬ o.Kind=2 by omega,show ¬ o.Kind=4 by omega]
 by_cases h3:o.Key=[]
 ·by_cases a:o.Kind=2<;>by_cases b:o.Kind=4<;>simp [h1,h2,h3,jO,a,b]
 have h3':1≤o.Key.length:=by
  cases e:o.Key with
  | nil=>exact absurd e h3
  | cons _ _=>simp
 by_cases h4:o.Key.length≤8
 case neg =>
  have:(o.Key.length:Int) > 8:=by omega
  by_cases a:o.Kind=2<;>by_cases b:o.Kind=4<;>simp [h1,h2,h3,h4,jO,a,b,this]
 by_cases h5:o.Value.length≤16
 case neg =>
  have:(o.Value.length:Int) > 16:=by omega
  by_cases a:o.Kind=2<;>by_cases b:o.Kind=4<;>simp [h1,h2,h3,h4,h5,jO,a,b,this]
 by_cases h6:o.Old.length≤16
 case neg =>
  have:(o.Old.length:Int) > 16:=by omega
  by_cases a:o.Kind=2<;>by_cases b:o.Kind=4<;>simp [h1,h2,h3,h4,h5,h6,jO,a,b,this]
 have e4:¬ (o.Key.length:Int) > 8:=by omega
 have e5:¬ (o.Value.length:Int) > 16:=by omega
 have e6:¬ (o.Old.length:Int) > 16:=by omega
 rw [aT h1,aT h2,aT e4,aT e5,aT e6,aT h3,bf (show 1≤o.Kind by omega),bf (show o.Kind≤4 by omega),bf h3',bf h4,bf h5,bf h6]
 by_cases a:o.Kind=2<;>by_cases b:o.Kind=4<;>by_cases c:o.Value=[]<;>simp [jO,a,b,c]<;>omega
theorem Mf (o:bE):zC o=some (sj o):=by
 unfold zC Dg sj
 simp only [akK,ahO]
 by_cases h1:o.Kind < 1
 ·simp [h1,jO,show ¬ 1≤o.Kind by omega]
 by_cases h2:o.Kind > 4
 ·simp [h1,h2,jO,show ¬ o.Kind≤4 by omega,show ¬ o.Kind=2 by omega,show ¬ o.Kind=4 by omega]
 by_cases h3:1≤o.Key.length
 case neg =>
  have:(o.Key.length:Int) < 1:=by omega
  simp [h1,h2,h3,jO,this]
 by_cases h4:o.Key.length≤8
 case neg =>
  have:(o.Key.length:Int) > 8:=by omega
  have h3':¬ (o.Key.length:Int) < 1:=by omega
  simp [h1,h2,h3',h4,jO,this]
 by_cases h5:o.Value.length≤16
 case neg =>
  have:(o.Value.length:Int) > 16:=by omega
  have h3':¬ (o.Key.length:Int) < 1:=by omega
  have h4':¬ (o.Key.length:Int) > 8:=by omega
  simp [h1,h2,h3',h4',h5,jO,this]
 by_cases h6:o.Old.length≤16
 case neg =>
  have:(o.Old.length:Int) > 16:=by omega
  have h3':¬ (o.Key.length:Int) < 1:=by omega
  have h4':¬ (o.Key.length:Int) > 8:=by omega
  have h5':¬ (o.Value.length:Int) > 16:=by omega
  simp [h1,h2,h3',h4',h5',h6,jO,this]
 have e3:¬ (o.Key.length:Int) < 1:=by omega
 have e4:¬ (o.Key.length:Int) > 8:=by omega
 have e5:¬ (o.Value.length:Int) > 16:=by omega
 have e6:¬ (o.Old.length:Int) > 16:=by omega
 rw [aT h1,aT h2,aT e3,aT e4,aT e5,aT e6,bf (show 1≤o.Kind by omega),bf (show o.Kind≤4 by omega),bf h3,bf h4,bf h5,bf h6]
 by_cases a:o.Kind=2<;>by_cases b:o.Kind=4<;>by_cases c:o.Value=[]<;>by_cases d:o.Old=[]<;>simp [jO,a,b,c,d]<;>omega
theorem SX {o:bE} (h:sj o=true):1≤o.Kind∧o.Kind≤4:=by
 unfold sj at h
 simp only [Bool.and_eq_true,decide_eq_true_eq] at h
 omega
def doP (o:bE) (L:List av):aB×List av :=
 if sj o=false then (⟨1,[]⟩,L)
 else if o.Kind=2 then
  if CX L o.Key=true then (⟨0,[]⟩,L.set (place L o.Key) ⟨o.Key,o.Value⟩)
  else if L.length=8 then (⟨5,[]⟩,L) else (⟨0,[]⟩,Nl L (place L o.Key) ⟨o.Key,o.Value⟩)
 else if CX L o.Key=false then (⟨4,[]⟩,L)
 else if o.Kind=1 then (⟨0,(pAt L o.Key).Value⟩,L)
 else if o.Kind=4 then (if (pAt L o.Key).Value=o.Old then (⟨0,[]⟩,L.set (place L o.Key) ⟨o.Key,o.Value⟩) else (⟨6,(pAt L o.Key).Value⟩,L))
 else (⟨0,[]⟩,Qs L (place L o.Key) ((place L o.Key:Int)+1))
def OkT (L:List av):Prop:=SV L∧L.length≤8
theorem aqo (L:List av) (k:Nat) (p:av) (h:k < L.length) (e:L[k].Key=p.Key):(L.set k p).map (·.Key)=L.map (·.Key):=by
 apply List.ext_getElem
 ·simp
 ·intro i h1 h2
  simp only [List.getElem_map,List.getElem_set]
  split
  ·next q=>subst q;exact e.symm
  ·rfl
theorem aqp {L:List av} (h:OkT L) {key v:List UInt8} (hd:CX L key=true):OkT (L.set (place L key) ⟨key,v⟩):=by
 have c:=t_ hd
 have e:L[place L key].Key=key:=by rw [abg L key c] at hd;simpa using hd
 refine ⟨?_,by rw [List.length_set];exact h.2⟩
 unfold SV
 rw [aqo L _ _ c e]
 exact h.1
theorem avR {L:List av} (h:OkT L) {key v:List UInt8} (hd:CX L key=false) (hl:L.length≠8):OkT (Nl L (place L key) ⟨key,v⟩):=by
 have pl:=Vg L key
 refine ⟨?_,by simp only [Nl,List.length_append,List.length_take,List.length_cons,List.length_drop];have:=h.2;omega⟩
 unfold SV Nl
 rw [Int.toNat_natCast,List.map_append,List.map_cons,List.pairwise_append]
 have hr:=h.1
 unfold SV at hr
 have ht:∀ a∈(L.take (place L key)).map (·.Key),Op.bytesLess a key=true:=by
  intro a ha
  rw [List.mem_map] at ha
  obtain ⟨p,hp,rfl⟩:=ha
  obtain ⟨i,hi,rfl⟩:=List.mem_iff_getElem.1 hp
  simp only [List.length_take] at hi
  rw [List.getElem_take]
  exact ahN key L i (by omega) (by omega)
 have hdr:∀ a∈(L.drop (place L key)).map (·.Key),Op.bytesLess key a=true:=by
  intro a ha
  rw [List.mem_map] at ha
  obtain ⟨p,hp,rfl⟩:=ha
  obtain ⟨i,hi,rfl⟩:=List.mem_iff_getElem.1 hp
  simp only [List.length_drop] at hi
  rw [List.getElem_drop]
  have c:place L key < L.length:=by omega
  have f:Op.bytesLess key L[place L key].Key=true:=by
   refine ahM _ _ (abf key L c) (λq=>?_)
   rw [abg L key c,q] at hd
   simp at hd
  cases i with
  | zero=>simpa using f
  | succ i=>exact PV _ _ _ f (Xb h.1 (by omega) (by omega))
 refine ⟨?_, ?_, ?_⟩
 ·exact List.Pairwise.sublist ((List.take_sublist _ _).map _) hr
 ·rw [List.pairwise_cons]
  exact ⟨hdr,List.Pairwise.sublist ((List.drop_sublist _ _).map _) hr⟩
 ·intro a ha b hb
  rcases List.mem_cons.1 hb with rfl | hb
  ·exact ht a ha
  ·exact PV _ _ _ (ht a ha) (hdr b hb)
theorem avS {L:List av} (h:OkT L) (k:Nat) (hk:k < L.length):OkT (Qs L k ((k:Int)+1)):=by
 have e:Qs L k ((k:Int)+1)=L.eraseIdx k:=by
  unfold Qs
  rw [Int.toNat_natCast,show ((k:Int)+1).toNat=k+1 by omega,List.eraseIdx_eq_take_drop_succ]
 rw [e]
 exact ⟨List.Pairwise.sublist ((List.eraseIdx_sublist _ _).map _) h.1,Nat.le_trans (List.eraseIdx_sublist _ _).length_le h.2⟩
theorem au6 {L:List av} (h:OkT L) (o:bE):OkT (doP o L).2:=by
 unfold doP
 split
 ·exact h
 split
 ·split
  ·next hd=>exact aqp h hd
  ·next hd =>
   split
   ·exact h
   ·next hl=>exact avR h (by simpa using hd) hl
 split
 ·exact h
 next hd =>
 have hd:CX L o.Key=true:=by simpa using hd
 split
 ·exact h
 split
 ·split
  ·exact aqp h hd
  ·exact h
 ·exact avS h _ (t_ hd)
theorem CY {β:Type} {n:Nat} {x:Option β} (h:n≤100):gd (dx 32 n) x=x:=arB (by omega) (by omega)
theorem axO {L:List av} {key v:List UInt8} (h:OkT L) (hd:CX L key=true):(gd (dx 32 L.length) ((bV L (place L key:Int)).bind λ(x2:av)=>some (L.set (place L key:Int).toNat (⟨x2.Key,v⟩:av))))=some (L.set (place L key) ⟨key,v⟩):=by
 rw [CY (by have:=h.2;omega),Xa (t_ hd),Option.bind_some,afq hd,Int.toNat_natCast]
theorem al6 (o:bE) (L:List av) (h:OkT L):rV o L=some (doP o L):=by
 have hl:=h.2
 have pl:=Vg L o.Key
 unfold rV tL doP
 rw [XV,Option.bind_some,ajU L o.Key h.1 (by omega)]
 cases hr:sj o
 ·simp
 have hk:=SX hr
 simp only [Bool.not_true,cond_false,Option.bind_some,Bool.true_eq_false,if_false,ahO]
 by_cases k2:o.Kind=2
 ·rw [bf k2,cond_true,if_pos k2]
  unfold vg mI
  cases hd:CX L o.Key
  ·rw [cond_false,if_neg (by simp),ahO]
   by_cases l8:L.length=8
   ·rw [bf (by omega),if_pos l8];rfl
   ·rw [aT (by omega),if_neg l8,cond_false,CY (by omega),jH (by simp [aiA,dx];omega)];rfl
  ·rw [cond_true,axO h hd,if_pos rfl];rfl
 rw [aT k2,cond_false,if_neg k2]
 cases hd:CX L o.Key
 ·simp
 have hp:=Xa (t_ hd)
 simp only [Bool.not_true,cond_false,Bool.true_eq_false,if_false]
 by_cases k1:o.Kind=1
 ·rw [bf k1,cond_true,if_pos k1,hp];rfl
 rw [aT k1,cond_false,if_neg k1]
 by_cases k4:o.Kind=4
 ·rw [bf k4,cond_true,if_pos k4]
  unfold u_ mI
  rw [axO h hd,hp,Option.bind_some]
  by_cases q:(pAt L o.Key).Value=o.Old
  ·rw [if_pos q];simp [q]
  ·have:((pAt L o.Key).Value==o.Old)=false:=by simpa using q
   rw [if_neg q,this];rfl
 ·have c:=t_ hd
  rw [aT k4,cond_false,if_neg k4,CY (by omega),bM (by omega) (by omega),jH (by simp [arv];omega)]
theorem axP (L:List av) (k:Nat) (p:av) (h:k < L.length):(L.take k++[p])++L.drop (k+1)=L.set k p:=by
 rw [List.set_eq_take_append_cons_drop,if_pos h,List.append_assoc]
 rfl
theorem ajV (o:bE) (L:List av) (h:OkT L):yK o L=some ((doP o L).1,(doP o L).2):=by
 have hl:=h.2
 have pl:=Vg L o.Key
 unfold yK wY wZ doP
 rw [Mf,Option.bind_some,aqn L o.Key (by omega)]
 cases hr:sj o
 ·simp
 have hk:=SX hr
 simp only [Bool.not_true,cond_false,Option.bind_some,Bool.true_eq_false,if_false,ahO]
 rw [VZ L _ pl]
 by_cases k1:o.Kind=1
 ·have k2:¬ o.Kind=2:=by omega
  rw [bf k1,cond_true,if_neg k2,if_pos k1]
  cases hd:CX L o.Key
  ·simp
  ·rw [Xa (t_ hd)];simp
 rw [aT k1,cond_false]
 by_cases k2:o.Kind=2
 ·rw [bf k2,cond_true,if_pos k2]
  have lt:(L.take (place L o.Key)).length≤8:=by rw [List.length_take];omega
  cases hd:CX L o.Key
  ·simp only [Bool.not_false,cond_true]
   by_cases l8:L.length=8
   ·rw [bf (by omega),if_neg (by simp),if_pos l8];rfl
   ·rw [aT (by omega),if_neg (by simp),if_neg l8,cond_false,Option.bind_some]
    simp only [jO,cond_false,Option.bind_some]
    rw [CY (by omega),CY (by rw [List.length_append];simp only [List.length_singleton];omega),uh L _ pl,Option.bind_some,CY (by simp only [List.length_append,List.length_singleton,List.length_drop];omega)]
    unfold Nl
    rw [Int.toNat_natCast,List.append_assoc]
    rfl
  ·have c:=t_ hd
   simp only [Bool.not_true,cond_false,cond_true,Option.bind_some,jO,if_true]
   rw [CY (by omega),CY (by rw [List.length_append];simp only [List.length_singleton];omega),bM (by omega) (by omega),dA,uh L _ (by omega),Option.bind_some,CY (by simp only [List.length_append,List.length_singleton,List.length_drop];omega),axP L _ _ c]
 rw [aT k2,cond_false,if_neg k2]
 by_cases k3:o.Kind=3
 ·rw [bf k3,cond_true]
  cases hd:CX L o.Key
  ·simp
  ·have c:=t_ hd
   have k4:¬ o.Kind=4:=by omega
   simp only [Bool.not_true,cond_false,Option.bind_some,Bool.true_eq_false,if_false]
   rw [if_neg k1,if_neg k4,CY (by rw [List.length_take];omega),bM (by omega) (by omega),dA,uh L _ (by omega),Option.bind_some,CY (by simp only [List.length_append,List.length_take,List.length_drop];omega)]
   unfold Qs
   rw [Int.toNat_natCast,Int.toNat_natCast]
 rw [aT k3,cond_false]
 have k4:o.Kind=4:=by omega
 cases hd:CX L o.Key
 ·simp
 have hp:=Xa (t_ hd)
 simp only [Bool.not_true,cond_false,Bool.true_eq_false,if_false]
 rw [if_neg k1,if_pos k4,hp,Option.bind_some,Option.bind_some,Option.bind_some,afq hd,CY (by omega),Int.toNat_natCast]
 by_cases q:(pAt L o.Key).Value=o.Old
 ·rw [if_pos q];simp [q]
 ·have:((pAt L o.Key).Value==o.Old)=false:=by simpa using q
  rw [if_neg q,this];rfl
end Go.Proofs.YtohoggieaanllaaGreat
