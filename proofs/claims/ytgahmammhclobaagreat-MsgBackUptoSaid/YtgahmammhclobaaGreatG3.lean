import Derived.Test.YtgahmammhclobaaGreatG2
import Derived.Test.YtgahmammhclobaaGreatH2
set_option linter.all false
set_option linter.unusedSimpArgs false
set_option maxRecDepth 100000
namespace Go.Proofs.YtgahmammhclobaaGreat
theorem ans_do {L:List api_Pair} (hp:OkP L) (o:api_Op) (hr:rightP o=true):((doP o L).1.Why=0∨(doP o L).1.Why=4∨(doP o L).1.Why=5∨(doP o L).1.Why=6)∧(doP o L).1.Value.length≤16:=by
 have pv:hadL L o.Key=true→(pAt L o.Key).Value.length≤16:=fun hd=>by
  have h1:=had_yes hd
  have h2:pAt L o.Key=L[place L o.Key]:=by
   unfold pAt
   rw [List.getElem?_eq_getElem h1]
   rfl
  have:=hp _ (List.getElem_mem h1)
  rw [h2]
  unfold badP at this
  simp only [Bool.or_eq_false_iff,decide_eq_false_iff_not] at this
  omega
 unfold doP
 rw [if_neg (by rw [hr]; simp)]
 cases hd:hadL L o.Key
 ·simp only [Bool.false_eq_true,if_false,if_true]
  split
  ·split <;> simp
  ·simp
 ·have:=pv hd
  simp only [if_true,Bool.true_eq_false,if_false]
  split
  ·simp
  ·split
   ·simp; omega
   ·split
    ·split
     ·simp
     ·simp; omega
    ·simp
theorem noteS_is (S:session_Sessions) (x:api_Sess):noteS S x=S∨noteS S x=⟨S.l.set x.Client x⟩:=by
 unfold noteS session_Sessions_Note session_Sessions_Note_J0
 cases decide (x.Client < 0)
 case true=>exact .inl rfl
 cases decide (x.Client ≥ 4)
 case true=>exact .inl rfl
 cases decide (x.Seq < 1)
 case true=>exact .inl rfl
 simp only [cond_false]
 cases getI S.l.toL x.Client with
 | none=>exact .inl rfl
 | some y =>
  simp only [Option.bind_some]
  cases decide (x.Seq≤y.Seq)
  ·exact .inr rfl
  ·exact .inl rfl
theorem mem_note {S:session_Sessions} {x y:api_Sess} (h:y ∈ allOf (noteS S x)):y ∈ allOf S∨y=x:=by
 rcases noteS_is S x with e | e <;> rw [e] at h
 ·exact .inl h
 ·unfold allOf at h ⊢
  rw [List.mem_filter] at h ⊢
  obtain ⟨h1,h2⟩:=h
  have:y ∈ S.l.toL∨y=x:=by
   unfold A4.set at h1
   split at h1 <;> simp only [A4.toL,List.mem_cons,List.not_mem_nil,or_false] at h1 ⊢ <;> (rcases h1 with rfl | rfl | rfl | rfl <;> simp)
  exact this.imp (fun k=>⟨k,h2⟩) id
def OkI (s:shard_Shard):Prop:=OkS s∧OkP s.Table.l∧∀ y ∈ allOf s.Sessions,ansP y=true
theorem ask_ref (r:api_Req) (s:shard_Shard) (h:OkI s):∃ a b s',oR_Shard_Ask r (refOf s)=some (a,b,refOf s')∧OkI s'∧s'.ID=s.ID∧s'.Epoch=s.Epoch:=by
 obtain ⟨T,S,i,e⟩:=s
 have h0:=h
 obtain ⟨⟨hT,hS⟩,hP,hA⟩:=h
 simp only at hT hS hP hA
 unfold oR_Shard_Ask
 rw [rreq_plain,Option.bind_some]
 by_cases hr:rightR r
 case neg =>
  rw [dec_f hr]
  exact ⟨⟨1,[]⟩,false,⟨T,S,i,e⟩,rfl,h0,rfl,rfl⟩
 rw [dec_t hr]
 simp only [isL,cond_false,Bool.not_true]
 have hl:=all_len S
 rw [last3_plain _ _ (by simp only [refOf]; omega),Option.bind_some]
 have q:(lastOf r.Client (refOf ⟨T,S,i,e⟩).S_.L)=(lastOf r.Client (allOf S)):=rfl
 rw [q]
 generalize lastOf r.Client (allOf S)=la
 cases h1:(r.Seq == la.1.Seq)
 case true=>exact ⟨la.1.Answer,false,⟨T,S,i,e⟩,by rfl,h0,rfl,rfl⟩
 simp only [cond_false]
 cases h2:decide (r.Seq < la.1.Seq)
 case true=>exact ⟨⟨9,[]⟩,false,⟨T,S,i,e⟩,by rfl,h0,rfl,rfl⟩
 simp only [cond_false]
 rw [rdo3_plain _ _ hT,Option.bind_some]
 obtain ⟨⟨b,e1,e2⟩,e3⟩:=noteS_good ⟨r.Client,r.Seq,(doP r.Op T.l).1⟩ S hS
 simp only [refOf]
 rw [note3_plain _ _ (by simp only; omega)]
 simp only [e2,Option.bind_some]
 have ha:=ans_do hP r.Op hr.2.2.2.2
 refine ⟨_,_,⟨⟨(doP r.Op T.l).2⟩,noteS S ⟨r.Client,r.Seq,(doP r.Op T.l).1⟩,i,e⟩,rfl,⟨⟨do_ok hT _,e3⟩,okP_do hP _,fun y hy=>?_⟩,rfl,rfl⟩
 rcases mem_note hy with k | rfl
 ·exact hA y k
 ·have hs:=hr.2.2.2.1
  unfold ansP
  simp only
  rw [dec_t ha.2,dec_t hs]
  rcases ha.1 with k | k | k | k <;> rw [k] <;> rfl
end Go.Proofs.YtgahmammhclobaaGreat
