import Derived.Test.YtohoggieaanllaaGreatH2
import Derived.Test.YtohoggieaanllaaGreatT2
set_option linter.all false
set_option linter.unusedSimpArgs false
namespace Go.Proofs.YtohoggieaanllaaGreat
def ofP (L:List au) (l:List au):List au:=l.foldl (λL x=>(doP ⟨2,x.Key,x.Value,[]⟩ L).2) L
theorem aaE (l:List au):∀ L,OkT L→OkT (ofP L l):=by
 induction l with
 | nil=>exact λL h=>h
 | cons x l ih=>exact λL h=>ih _ (avd h _)
theorem ok0:OkT []:=⟨List.Pairwise.nil,by simp⟩
theorem ahc (l:List au) (h:l.length < 1000000000):Oy l=some ⟨ofP [] l⟩:=by
 unfold Oy
 have key:Ox l (0,[])=some (ofP [] l):=by
  refine qK (λi=>((i:Int),ofP [] (l.take i))) l.length _ (λi hi=>?_) ?_ (by omega)
  ·unfold sQ
   simp only
   rw [aZ (by omega),cond_true,dI hi,Option.bind_some,alV _ _ (aaE _ _ ok0),Option.bind_some,bU (by omega) (by omega),cO,List.take_succ_eq_append_getElem hi]
   unfold ofP
   rw [List.foldl_append]
   rfl
  ·unfold sQ
   simp only
   rw [aV (by omega),cond_false,List.take_length]
 rw [key]
 rfl
theorem adk (l:List au) (h:l.length < 1000000000):FH l=some ⟨ofP [] l⟩:=by
 unfold FH
 have key:IW l (0,[])=some (ofP [] l):=by
  refine qK (λi=>((i:Int),ofP [] (l.take i))) l.length _ (λi hi=>?_) ?_ (by omega)
  ·unfold oG
   simp only
   rw [aZ (by omega),cond_true,dI hi,Option.bind_some,Option.bind_some,ajt _ _ (aaE _ _ ok0),Option.bind_some,bU (by omega) (by omega),cO,List.take_succ_eq_append_getElem hi]
   unfold ofP
   rw [List.foldl_append]
   rfl
  ·unfold oG
   simp only
   rw [aV (by omega),cond_false,List.take_length]
 rw [key]
 rfl
end Go.Proofs.YtohoggieaanllaaGreat
