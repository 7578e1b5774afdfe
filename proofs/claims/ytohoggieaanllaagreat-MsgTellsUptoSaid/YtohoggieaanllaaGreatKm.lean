import Derived.Test.YtohoggieaanllaaGreatKl
set_option linter.all false
set_option linter.unusedSimpArgs false
set_option maxRecDepth 100000
namespace Go.Proofs.YtohoggieaanllaaGreat
theorem abD (b:Bool):UA b=some (Te b):=by
 cases b<;>rfl
theorem aqI (m:aM) (h:EM m):KN m=some (if sD m then abx m else []):=by
 unfold KN
 rw [Tf m h,Option.bind_some]
 cases hr:sD m
 ·rfl
 obtain ⟨_,_,h3,h4,h5,h6,h7,h8,h9,h0⟩:=Mj hr
 have hl:=aby hr
 unfold abx at hl ⊢
 simp only [List.length_append] at hl
 simp only [Bool.not_true,cond_false,if_true]
 have e9:[m.Kind,m.From,m.To,m.dR,m.Epoch,m.Weight,m.Load,m.kT,Te m.dL].flatMap eN=(Jc m).flatMap eN++eN (Te m.dL):=by
  unfold Jc
  simp
 rw [abD,Option.bind_some,nS _ _ (by simp),Option.bind_some,jE [] (l:=[m.Kind,m.From,m.To,m.dR,m.Epoch,m.Weight,m.Load,m.kT,Te m.dL]) (λx hx=>by
  have:x∈Jc m∨x=Te m.dL:=by
   unfold Jc
   simp only [List.mem_cons,List.not_mem_nil,or_false] at hx ⊢
   omega
  rcases this with q | q
  ·exact h3 x q
  ·rw [q];exact Qo _),List.nil_append,e9]
 rw [acJ _ _ (by simp only [List.length_append];omega),h8,if_pos rfl,Option.bind_some,RI _ _ (by simp only [List.length_append];omega),h9,if_pos rfl,Option.bind_some]
 rw [nS _ _ (by simp only [List.length_append,List.length_cons,List.length_nil];omega),Option.bind_some,jE _ (l:=[(m.Path.length:Int)]) (λx hx=>by rw [List.mem_singleton.1 hx];unfold vG;omega)]
 simp only [List.flatMap_cons,List.flatMap_nil,List.append_nil]
 rw [nS _ _ (by simp only [List.length_append];omega),Option.bind_some,jE _ (l:=m.Path) h6]
 rw [nS _ _ (by simp only [List.length_append,List.length_cons,List.length_nil];omega),Option.bind_some,jE _ (l:=[(m.Table.length:Int)]) (λx hx=>by rw [List.mem_singleton.1 hx];unfold vG;omega)]
 simp only [List.flatMap_cons,List.flatMap_nil,List.append_nil]
 generalize hB:(Jc m).flatMap eN++eN (Te m.dL)++abn m.Fa++YW m.Answer++eN (m.Path.length:Int)++m.Path.flatMap eN++eN (m.Table.length:Int)=B
 have hBl:B.length≤2000:=by
  rw [← hB]
  simp only [List.length_append]
  omega
 have l0:Fp m (B,0)=some (B++m.Table.flatMap Ii):=by
  have e0:(B,(0:Int))=(B++(m.Table.take 0).flatMap Ii,((0:Nat):Int)):=by simp
  unfold Fp
  rw [e0]
  refine ng (λi=>(B++(m.Table.take i).flatMap Ii,(i:Int))) m.Table.length _ (λi hi=>?_) ?_ (by omega)
  ·have q5:(m.Table.take (i+1)).flatMap Ii=(m.Table.take i).flatMap Ii++Ii m.Table[i]:=by
    rw [List.take_succ_eq_append_getElem hi,List.flatMap_append]
    simp
   have q6:=FT Ii m.Table i
   obtain ⟨q1,q2,q3,q4,q7⟩:=h7 _ (List.getElem_mem hi)
   have hp:=jE (B++(m.Table.take i).flatMap Ii) (l:=[m.Table[i].Inc,m.Table[i].Status,m.Table[i].qZ,m.Table[i].Load,Te m.Table[i].dL]) (λz hz=>by
    simp only [List.mem_cons,List.not_mem_nil,or_false] at hz
    rcases hz with rfl | rfl | rfl | rfl | rfl
    ·exact q1
    ·unfold vG;omega
    ·exact q4
    ·exact q7
    ·exact Qo _)
   unfold rU
   simp only
   rw [bf (by omega),cond_true,dP hi,Option.bind_some,abD,Option.bind_some,nS _ _ (by simp only [List.length_append,List.length_cons,List.length_nil];omega),Option.bind_some,hp,bM (by omega) (by omega),dA,q5]
   unfold Ii
   rw [List.append_assoc]
  ·unfold rU
   simp only
   rw [aT (by omega),cond_false,List.take_length]
 rw [l0,Option.bind_some,Y1 _ _ (by rw [List.length_append];omega) h.2.2.1 h.2.2.2,h0,if_pos rfl,Option.bind_some,← hB]
 simp only [List.append_assoc]
end Go.Proofs.YtohoggieaanllaaGreat
