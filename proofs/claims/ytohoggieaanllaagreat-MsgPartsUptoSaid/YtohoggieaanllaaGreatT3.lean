import Derived.Test.YtohoggieaanllaaGreatH2
import Derived.Test.YtohoggieaanllaaGreatT2
set_option linter.all false
set_option linter.unusedSimpArgs false
namespace Go.Proofs.YtohoggieaanllaaGreat
def UZ (L:List au) (l:List au):List au:=l.foldl (λL x=>(T_ ⟨2,x.Key,x.Value,[]⟩ L).2) L
theorem XI (l:List au):∀ L,Z8 L→Z8 (UZ L l):=by
 induction l with
 | nil=>exact λL h=>h
 | cons x l ih=>exact λL h=>ih _ (alb h _)
theorem ok0:Z8 []:=⟨List.Pairwise.nil,by simp⟩
theorem ahI (l:List au) (h:l.length < 1000000000):I7 l=some ⟨UZ [] l⟩:=by
 unfold I7
 have key:I6 l (0,[])=some (UZ [] l):=by
  refine qM (λi=>((i:Int),UZ [] (l.take i))) l.length _ (λi hi=>?_) ?_ (by omega)
  ·unfold pQ
   simp only
   rw [bI (by omega),cond_true,fA hi,Option.bind_some,adM _ _ (XI _ _ ok0),Option.bind_some,fG (by omega) (by omega),fE,List.take_succ_eq_append_getElem hi]
   unfold UZ
   rw [List.foldl_append]
   rfl
  ·unfold pQ
   simp only
   rw [aZ (by omega),cond_false,List.take_length]
 rw [key]
 rfl
theorem adN (l:List au) (h:l.length < 1000000000):Bp l=some ⟨UZ [] l⟩:=by
 unfold Bp
 have key:Dw l (0,[])=some (UZ [] l):=by
  refine qM (λi=>((i:Int),UZ [] (l.take i))) l.length _ (λi hi=>?_) ?_ (by omega)
  ·unfold l5
   simp only
   rw [bI (by omega),cond_true,fA hi,Option.bind_some,Option.bind_some,abJ _ _ (XI _ _ ok0),Option.bind_some,fG (by omega) (by omega),fE,List.take_succ_eq_append_getElem hi]
   unfold UZ
   rw [List.foldl_append]
   rfl
  ·unfold l5
   simp only
   rw [aZ (by omega),cond_false,List.take_length]
 rw [key]
 rfl
end Go.Proofs.YtohoggieaanllaaGreat
