import Derived.Test.YtohoggieaanllaaGreatN1
import Derived.Test.YtohoggieaanllaaGreatK1
import Derived.Test.YtohoggieaanllaaGreatY5
set_option linter.all false
set_option linter.unusedSimpArgs false
namespace Go.Proofs.YtohoggieaanllaaGreat
theorem aoA (b:List UInt8) (l:List Int) (h:b.length+10 * l.length < 1000000000):BJ b l=some (R3 b l):=l7 b l h
theorem rE (b:List UInt8) {l:List Int} (h:∀ x∈l,vO x):R3 b l=b++l.flatMap eN:=by
 unfold R3
 rw [if_pos (List.all_eq_true.2 λx hx=>by have:=h x hx;simp [Uj];exact this)]
 rfl
theorem O4 (s:List UInt8) (h:okS s):(eT s).length≤s.length+9:=by
 have:=H_ h
 unfold eT
 rw [List.length_append]
 omega
theorem ahC (l:List (List UInt8)) (i:Nat):((l.take i).flatMap eT).length≤(l.flatMap eT).length:=by
 rw [← List.take_append_drop i l,List.flatMap_append,List.length_append,List.take_append_drop]
 omega
theorem adL (b:List UInt8) (l:List (List UInt8)) (h:b.length+(l.flatMap eT).length < 900000000) (hl:l.length < 1000000000) (f:Int×List UInt8→Option ((Int×List UInt8)⊕(List UInt8)))
  (hf:∀ s5,f s5=cond (decide (s5.1 < (l.length:Int))) ((bW l s5.1).bind λ(x6:List UInt8)=>(BJ s5.2 ([(x6.length:Int)])).bind λ(x7:List UInt8)=>gd (dB 1 (x7++x6).length) (some (.inl ((IntKind.i64.wrap (s5.1+1)),(x7++x6))))) (some (.inr s5.2))) :
  eG f KK (0,b)=some (b++l.flatMap eT):=by
 have e0:((0:Int),b)=(((0:Nat):Int),b++(l.take 0).flatMap eT):=by simp
 rw [e0]
 refine qM (λi=>((i:Int),b++(l.take i).flatMap eT)) l.length _ (λi hi=>?_) ?_ (by omega)
 ·have h5:(l.take (i+1)).flatMap eT=(l.take i).flatMap eT++eT l[i]:=by
   rw [List.take_succ_eq_append_getElem hi,List.flatMap_append]
   simp
  have h6:=ahC l (i+1)
  rw [h5,List.length_append] at h6
  have h7:(eT l[i]).length=(nu l[i].length).length+l[i].length:=by unfold eT;rw [List.length_append]
  rw [hf]
  simp only
  rw [bI (by omega),cond_true,fA hi,Option.bind_some,aoA _ _ (by simp only [List.length_append,List.length_singleton];omega),Option.bind_some,adh _ (by omega),
   H9 (by simp only [List.length_append];omega),fG (by omega) (by omega),fE,h5]
  unfold eT
  simp only [List.append_assoc]
 ·rw [hf]
  simp only
  rw [aZ (by omega),cond_false,List.take_length]
theorem LW (b:List UInt8) (l:List (List UInt8)) (h:b.length+(l.flatMap eT).length < 900000000) (hl:l.length < 1000000000):yG b l=some (b++l.flatMap eT):=by
 unfold yG FV
 rw [H9 (by omega),adL b l h hl (ru l) (λ_=>rfl)]
 rfl
end Go.Proofs.YtohoggieaanllaaGreat
