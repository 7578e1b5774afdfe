import Derived.Test.YtohoggieaanllaaGreatH2
import Derived.Test.YtohoggieaanllaaGreatT2
set_option linter.all false
set_option linter.unusedSimpArgs false
namespace Go.Proofs.YtohoggieaanllaaGreat
def ofP (L:List av) (l:List av):List av:=l.foldl (λL x=>(doP ⟨2,x.Key,x.Value,[]⟩ L).2) L
theorem abh (l:List av):∀ L,OkT L→OkT (ofP L l):=by
 induction l with
 | nil=>exact λL h=>h
 | cons x l ih=>exact λL h=>ih _ (au6 h _)
theorem ok0:OkT []:=⟨List.Pairwise.nil,by simp⟩
theorem ahP (l:List av) (h:l.length < 1000000000):O7 l=some ⟨ofP [] l⟩:=by
 unfold O7
 have key:O6 l (0,[])=some (ofP [] l):=by
  refine ng (λi=>((i:Int),ofP [] (l.take i))) l.length _ (λi hi=>?_) ?_ (by omega)
  ·unfold uG
   simp only
   rw [bf (by omega),cond_true,dP hi,Option.bind_some,al6 _ _ (abh _ _ ok0),Option.bind_some,bM (by omega) (by omega),dA,List.take_succ_eq_append_getElem hi]
   unfold ofP
   rw [List.foldl_append]
   rfl
  ·unfold uG
   simp only
   rw [aT (by omega),cond_false,List.take_length]
 rw [key]
 rfl
theorem adV (l:List av) (h:l.length < 1000000000):Gf l=some ⟨ofP [] l⟩:=by
 unfold Gf
 have key:Jp l (0,[])=some (ofP [] l):=by
  refine ng (λi=>((i:Int),ofP [] (l.take i))) l.length _ (λi hi=>?_) ?_ (by omega)
  ·unfold qo
   simp only
   rw [bf (by omega),cond_true,dP hi,Option.bind_some,Option.bind_some,ajV _ _ (abh _ _ ok0),Option.bind_some,bM (by omega) (by omega),dA,List.take_succ_eq_append_getElem hi]
   unfold ofP
   rw [List.foldl_append]
   rfl
  ·unfold qo
   simp only
   rw [aT (by omega),cond_false,List.take_length]
 rw [key]
 rfl
end Go.Proofs.YtohoggieaanllaaGreat
