import Derived.Test.YtgahmammhclobaaGreatH2
import Derived.Test.YtgahmammhclobaaGreatT2
set_option linter.all false
set_option linter.unusedSimpArgs false
namespace Go.Proofs.YtgahmammhclobaaGreat
def ofP (L:List api_Pair) (l:List api_Pair):List api_Pair:=l.foldl (fun L x=>(doP ⟨2,x.Key,x.Value,[]⟩ L).2) L
theorem ofP_ok (l:List api_Pair):∀ L,OkT L→OkT (ofP L l):=by
 induction l with
 | nil=>exact fun L h=>h
 | cons x l ih=>exact fun L h=>ih _ (do_ok h _)
theorem ok0:OkT []:=⟨List.Pairwise.nil,by simp⟩
theorem of_plain (l:List api_Pair) (h:l.length < 1000000000):table_Of l=some ⟨ofP [] l⟩:=by
 unfold table_Of
 have key:table_Of_L0 l (0,[])=some (ofP [] l):=by
  refine loop_run (fun i=>((i:Int),ofP [] (l.take i))) l.length _ (fun i hi=>?_) ?_ (by omega)
  ·unfold table_Of_L0_s
   simp only
   rw [dec_t (by omega),cond_true,getI_at hi,Option.bind_some,do2_plain _ _ (ofP_ok _ _ ok0),Option.bind_some,wrap_id (by omega) (by omega),succ_cast,List.take_succ_eq_append_getElem hi]
   unfold ofP
   rw [List.foldl_append]
   rfl
  ·unfold table_Of_L0_s
   simp only
   rw [dec_f (by omega),cond_false,List.take_length]
 rw [key]
 rfl
theorem rof_plain (l:List api_Pair) (h:l.length < 1000000000):oR_TableOf l=some ⟨ofP [] l⟩:=by
 unfold oR_TableOf
 have key:oR_TableOf_L0 l (0,[])=some (ofP [] l):=by
  refine loop_run (fun i=>((i:Int),ofP [] (l.take i))) l.length _ (fun i hi=>?_) ?_ (by omega)
  ·unfold oR_TableOf_L0_s
   simp only
   rw [dec_t (by omega),cond_true,getI_at hi,Option.bind_some,Option.bind_some,rdo2_plain _ _ (ofP_ok _ _ ok0),Option.bind_some,wrap_id (by omega) (by omega),succ_cast,List.take_succ_eq_append_getElem hi]
   unfold ofP
   rw [List.foldl_append]
   rfl
  ·unfold oR_TableOf_L0_s
   simp only
   rw [dec_f (by omega),cond_false,List.take_length]
 rw [key]
 rfl
end Go.Proofs.YtgahmammhclobaaGreat
