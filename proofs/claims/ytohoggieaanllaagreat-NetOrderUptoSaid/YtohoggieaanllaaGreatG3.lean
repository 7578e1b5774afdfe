import Derived.Test.YtohoggieaanllaaGreatG2
import Derived.Test.YtohoggieaanllaaGreatH2
set_option linter.all false
set_option linter.unusedSimpArgs false
set_option maxRecDepth 100000
namespace Go.Proofs.YtohoggieaanllaaGreat
theorem awc {L:List au} (hp:OkP L) (o:bD) (hr:qU o=true):((doP o L).1.Why=0∨(doP o L).1.Why=4∨(doP o L).1.Why=5∨(doP o L).1.Why=6)∧(doP o L).1.Value.length≤16:=by
 have pv:Ch L o.Key=true→(pAt L o.Key).Value.length≤16:=λhd=>by
  have h1:=sD hd
  have h2:pAt L o.Key=L[place L o.Key]:=by
   unfold pAt
   rw [List.getElem?_eq_getElem h1]
   rfl
  have:=hp _ (List.getElem_mem h1)
  rw [h2]
  unfold ajv at this
  simp only [Bool.or_eq_false_iff,decide_eq_false_iff_not] at this
  omega
 unfold doP
 rw [if_neg (by rw [hr];simp)]
 cases hd:Ch L o.Key
 ·simp only [Bool.false_eq_true,if_false,if_true]
  split
  ·split<;>simp
  ·simp
 ·have:=pv hd
  simp only [if_true,Bool.true_eq_false,if_false]
  split
  ·simp
  ·split
   ·simp;omega
   ·split
    ·split
     ·simp
     ·simp;omega
    ·simp
theorem aqF (S:aW) (x:ak):zO S x=S∨zO S x=⟨S.l.set x.Client x⟩:=by
 unfold zO dK eH
 cases decide (x.Client < 0)
 case true=>exact .inl rfl
 cases decide (x.Client≥4)
 case true=>exact .inl rfl
 cases decide (x.Seq < 1)
 case true=>exact .inl rfl
 simp only [cond_false]
 cases bO S.l.Rn x.Client with
 | none=>exact .inl rfl
 | some y =>
  simp only [Option.bind_some]
  cases decide (x.Seq≤y.Seq)
  ·exact .inr rfl
  ·exact .inl rfl
theorem aqG {S:aW} {x y:ak} (h:y∈iy (zO S x)):y∈iy S∨y=x:=by
 rcases aqF S x with e | e<;>rw [e] at h
 ·exact .inl h
 ·unfold iy at h ⊢
  rw [List.mem_filter] at h ⊢
  obtain ⟨h1,h2⟩:=h
  have:y∈S.l.Rn∨y=x:=by
   unfold A4.set at h1
   split at h1<;>simp only [A4.Rn,List.mem_cons,List.not_mem_nil,or_false] at h1 ⊢<;>(rcases h1 with rfl | rfl | rfl | rfl<;>simp)
  exact this.imp (λk=>⟨k,h2⟩) id
def OkI (s:dF):Prop:=OkS s∧OkP s.Table.l∧∀ y∈iy s.b_,Yc y=true
theorem akz (r:bn) (s:dF) (h:OkI s):∃ a b s',wm r (vJ s)=some (a,b,vJ s')∧OkI s'∧s'.ID=s.ID∧s'.Epoch=s.Epoch:=by
 obtain ⟨T,S,i,e⟩:=s
 have h0:=h
 obtain ⟨⟨hT,hS⟩,hP,hA⟩:=h
 simp only at hT hS hP hA
 unfold wm
 rw [Sn,Option.bind_some]
 by_cases hr:jQ r
 case neg =>
  rw [aV hr]
  exact ⟨⟨1,[]⟩,false,⟨T,S,i,e⟩,rfl,h0,rfl,rfl⟩
 rw [aZ hr]
 simp only [jI,cond_false,Bool.not_true]
 have hl:=Ll S
 rw [Xk _ _ (by simp only [vJ];omega),Option.bind_some]
 have q:(lastOf r.Client (vJ ⟨T,S,i,e⟩).S_.L)=(lastOf r.Client (iy S)):=rfl
 rw [q]
 generalize lastOf r.Client (iy S)=la
 cases h1:(r.Seq==la.1.Seq)
 case true=>exact ⟨la.1.Answer,false,⟨T,S,i,e⟩,by rfl,h0,rfl,rfl⟩
 simp only [cond_false]
 cases h2:decide (r.Seq < la.1.Seq)
 case true=>exact ⟨⟨9,[]⟩,false,⟨T,S,i,e⟩,by rfl,h0,rfl,rfl⟩
 simp only [cond_false]
 rw [aju _ _ hT,Option.bind_some]
 obtain ⟨⟨b,e1,e2⟩,e3⟩:=Gv ⟨r.Client,r.Seq,(doP r.Op T.l).1⟩ S hS
 simp only [vJ]
 rw [ahd _ _ (by simp only;omega)]
 simp only [e2,Option.bind_some]
 have ha:=awc hP r.Op hr.2.2.2.2
 refine ⟨_,_,⟨⟨(doP r.Op T.l).2⟩,zO S ⟨r.Client,r.Seq,(doP r.Op T.l).1⟩,i,e⟩,rfl,⟨⟨avd hT _,e3⟩,aqm hP _,λy hy=>?_⟩,rfl,rfl⟩
 rcases aqG hy with k | rfl
 ·exact hA y k
 ·have hs:=hr.2.2.2.1
  unfold Yc
  simp only
  rw [aZ ha.2,aZ hs]
  rcases ha.1 with k | k | k | k<;>rw [k]<;>rfl
end Go.Proofs.YtohoggieaanllaaGreat
