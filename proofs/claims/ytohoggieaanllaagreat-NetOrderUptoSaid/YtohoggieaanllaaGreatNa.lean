import Derived.Test.YtohoggieaanllaaGreatKl
import Derived.Test.YtohoggieaanllaaGreatY6
set_option linter.all false
set_option linter.unusedSimpArgs false
set_option maxRecDepth 100000
namespace Go.Proofs.YtohoggieaanllaaGreat
def yC (p:Nat×List aF) (m:aF):Nat×List aF:=if nN m=true∧p.2.length < 60 then (p.1+1,p.2++[m]) else p
def ab0 (l M:List aF):Nat×List aF:=l.foldl yC (0,M)
def UH (M:List aF):Prop:=(∀ m∈M,nN m=true)∧M.length≤60
theorem al8 {p:Nat×List aF} (h:UH p.2) (m:aF):UH (yC p m).2:=by
 unfold yC
 split
 ·rename_i c
  refine ⟨λx hx=>?_,by simp;omega⟩
  rcases List.mem_append.1 hx with hx | hx
  ·exact h.1 x hx
  ·rw [List.mem_singleton.1 hx];exact c.1
 ·exact h
theorem aaY:∀ (l:List aF) (p:Nat×List aF),UH p.2→UH (l.foldl yC p).2
 | [],_,h=>h
 | m::l,p,h=>aaY l _ (al8 h m)
theorem aqI (p:Nat×List aF) (m:aF):p.1≤(yC p m).1∧(yC p m).1≤p.1+1:=by
 unfold yC
 split<;>simp
theorem ahx:∀ (l:List aF) (p:Nat×List aF),(l.foldl yC p).1≤p.1+l.length
 | [],p=>by simp
 | m::l,p=>by
  have:=ahx l (yC p m)
  have:=(aqI p m).2
  simp only [List.foldl_cons,List.length_cons]
  omega
theorem al9 (l:List aF) (p:Nat×List aF) {i:Nat} (hi:i < l.length):(l.take (i+1)).foldl yC p=yC ((l.take i).foldl yC p) l[i]:=by
 rw [List.take_succ_eq_append_getElem hi,List.foldl_append]
 rfl
theorem LD {m:aF} (h:nN m=true):LB m:=by
 obtain ⟨_,_,_,h4,h5,_,_,_,_,h0⟩:=E5 h
 have:=Bh h0
 exact ⟨by omega,by omega,by omega,by omega⟩
theorem Xm (l M:List aF) (hl:l.length < 1000000) (hs:∀ m∈l,LB m) (hM:UH M):yx l (M.map DK)=some (((ab0 l M).1:Int),(ab0 l M).2.map DK):=by
 have run:wV l (0,0,M.map DK)=some (((ab0 l M).1:Int),(ab0 l M).2.map DK):=by
  unfold wV
  have e0:((0:Int),(0:Int),M.map DK)=((((l.take 0).foldl yC (0,M)).1:Int),((0:Nat):Int),((l.take 0).foldl yC (0,M)).2.map DK):=by simp
  rw [e0]
  refine qK (λi=>((((l.take i).foldl yC (0,M)).1:Int),(i:Int),((l.take i).foldl yC (0,M)).2.map DK)) l.length _ (λi hi=>?_) ?_ (by omega)
  ·have g:=(aaY (l.take i) (0,M) hM).2
   have b:=ahx (l.take i) (0,M)
   rw [List.length_take] at b
   rw [al9 l _ hi]
   generalize (l.take i).foldl yC (0,M)=p at *
   have sm:=hs _ (List.getElem_mem hi)
   unfold kL wU
   simp only
   rw [aZ (by omega),cond_true,dI hi,Option.bind_some,Wj _ sm,Option.bind_some,auC _ sm]
   simp only [List.length_map]
   unfold yC
   cases c:nN l[i]
   ·rw [if_neg (by simp),bU (x:=(i:Int)+1) (by omega) (by omega),cO]
    rfl
   ·simp only [cond_true,Option.bind_some]
    by_cases d:p.2.length < 60
    ·rw [aZ (by omega),cond_true,if_pos trivial,if_pos ⟨trivial,d⟩,ak0 (by rw [List.length_append,List.length_map,List.length_singleton];omega),bU (by omega) (by omega),bU (by omega) (by omega),cO,cO,List.map_append]
     rfl
    ·rw [aV (by omega),cond_false,if_neg (λh=>d h.2),bU (by omega) (by omega),cO]
  ·unfold kL
   simp only
   rw [aV (by omega),cond_false,List.take_length]
   rfl
 unfold yx
 rw [run]
 rfl
theorem ajE (l:List aF) (hl:l.length < 1000000) (hs:∀ m∈l,LB m):DC l=some (((ab0 l []).1:Int),(ab0 l []).2.map DK) :=
 Xm l [] hl hs ⟨by simp,by simp⟩
theorem aaZ (k:Int) (L:List (List UInt8)):vB k L=some (decide (0≤k∧k < (L.length:Int))):=by
 unfold vB
 by_cases a:k≥0
 ·rw [aZ a,cond_true]
  by_cases b:k < (L.length:Int)
  ·rw [aZ b,aZ ⟨by omega,b⟩]
  ·rw [aV b,aV (λh=>b h.2)]
 ·rw [aV a,cond_false,aV (λh=>a h.1)]
theorem aqJ {M:List aF} (hM:UH M) {i:Nat} (h:i < M.length):Gh (DK M[i])=some (M[i],0):=by
 have r:=hM.1 _ (List.getElem_mem h)
 have:=ahr r
 rw [aqE _ (by omega),ajz r]
theorem auK {M:List aF} (hM:UH M) {i:Nat} (h:i < M.length):wX (i:Int) (M.map DK)=some (M[i],true,(M.take i++M.drop (i+1)).map DK):=by
 have h2:=hM.2
 unfold wX
 rw [aaZ,Option.bind_some,aZ ⟨by omega,by rw [List.length_map];omega⟩]
 simp only [Bool.not_true,cond_false]
 rw [dI (by rw [List.length_map];exact h),Option.bind_some,List.getElem_map,aqJ hM h,Option.bind_some,bU (by omega) (by omega),cO,jK (by unfold akY;rw [aZ ⟨by omega,by omega,by rw [List.length_map];omega⟩])]
 unfold GD
 rw [Int.toNat_natCast,Int.toNat_natCast,List.map_append,List.map_take,List.map_drop]
theorem akB {M:List aF} {i j:Nat} (hi:i < M.length) (hj:j < M.length):wW (i:Int) (j:Int) (M.map DK)=some (true,((M.set i M[j]).set j M[i]).map DK):=by
 unfold wW yN
 rw [aaZ,aaZ,List.length_map,aZ ⟨by omega,by omega⟩,aZ ⟨by omega,by omega⟩]
 simp only [Option.bind_some,Bool.not_true,cond_false,jI]
 rw [dI (by rw [List.length_map];exact hj),dI (by rw [List.length_map];exact hi),Option.bind_some,Option.bind_some,Option.bind_some,dI (by rw [List.length_set,List.length_map];exact hj),Option.bind_some]
 simp only [List.getElem_map,Int.toNat_natCast,List.map_set]
end Go.Proofs.YtohoggieaanllaaGreat
