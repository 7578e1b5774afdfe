import Derived.Test.YtohoggieaanllaaGreatG2
import Derived.Test.YtohoggieaanllaaGreatH2
set_option linter.all false
set_option linter.unusedSimpArgs false
set_option maxRecDepth 100000
namespace Go.Proofs.YtohoggieaanllaaGreat
theorem al2 {L:List au} (hp:OkP L) (o:aY) (hr:nS o=true):((T_ o L).1.Why=0∨(T_ o L).1.Why=4∨(T_ o L).1.Why=5∨(T_ o L).1.Why=6)∧(T_ o L).1.Value.length≤16:=by
 have pv:yJ L o.Key=true→(Z7 L o.Key).Value.length≤16:=λhd=>by
  have h1:=oW hd
  have h2:Z7 L o.Key=L[place L o.Key]:=by
   unfold Z7
   rw [List.getElem?_eq_getElem h1]
   rfl
  have:=hp _ (List.getElem_mem h1)
  rw [h2]
  unfold ahJ at this
  simp only [Bool.or_eq_false_iff,decide_eq_false_iff_not] at this
  omega
 unfold T_
 rw [if_neg (by rw [hr];simp)]
 cases hd:yJ L o.Key
 ·simp only [Bool.false_eq_true,if_false,if_true]
  split
  ·split<;>simp
  ·simp
 ·have:=pv hd
  simp only [if_true,Bool.true_eq_false,if_false]
  split
  ·simp
  ·split
   ·simp;omega
   ·split
    ·split
     ·simp
     ·simp;omega
    ·simp
theorem ahW (S:aQ) (x:ak):vP S x=S∨vP S x=⟨S.l.set x.Client x⟩:=by
 unfold vP dx dR
 cases decide (x.Client < 0)
 case true=>exact .inl rfl
 cases decide (x.Client≥4)
 case true=>exact .inl rfl
 cases decide (x.Seq < 1)
 case true=>exact .inl rfl
 simp only [cond_false]
 cases bW S.l.Lb x.Client with
 | none=>exact .inl rfl
 | some y =>
  simp only [Option.bind_some]
  cases decide (x.Seq≤y.Seq)
  ·exact .inr rfl
  ·exact .inl rfl
theorem ahX {S:aQ} {x y:ak} (h:y∈iX (vP S x)):y∈iX S∨y=x:=by
 rcases ahW S x with e | e<;>rw [e] at h
 ·exact .inl h
 ·unfold iX at h ⊢
  rw [List.mem_filter] at h ⊢
  obtain ⟨h1,h2⟩:=h
  have:y∈S.l.Lb∨y=x:=by
   unfold A4.set at h1
   split at h1<;>simp only [A4.Lb,List.mem_cons,List.not_mem_nil,or_false] at h1 ⊢<;>(rcases h1 with rfl | rfl | rfl | rfl<;>simp)
  exact this.imp (λk=>⟨k,h2⟩) id
def OkI (s:bY):Prop:=OkS s∧OkP s.Table.l∧∀ y∈iX s.cZ,U0 y=true
theorem acM (r:aX) (s:bY) (h:OkI s):∃ a b s',sw r (vQ s)=some (a,b,vQ s')∧OkI s'∧s'.ID=s.ID∧s'.Epoch=s.Epoch:=by
 obtain ⟨T,S,i,e⟩:=s
 have h0:=h
 obtain ⟨⟨hT,hS⟩,hP,hA⟩:=h
 simp only at hT hS hP hA
 unfold sw
 rw [TP,Option.bind_some]
 by_cases hr:iY r
 case neg =>
  rw [aZ hr]
  exact ⟨⟨1,[]⟩,false,⟨T,S,i,e⟩,rfl,h0,rfl,rfl⟩
 rw [bI hr]
 simp only [mW,cond_false,Bool.not_true]
 have hl:=JR S
 rw [P9 _ _ (by simp only [vQ];omega),Option.bind_some]
 have q:(lastOf r.Client (vQ ⟨T,S,i,e⟩).S_.L)=(lastOf r.Client (iX S)):=rfl
 rw [q]
 generalize lastOf r.Client (iX S)=la
 cases h1:(r.Seq==la.1.Seq)
 case true=>exact ⟨la.1.Answer,false,⟨T,S,i,e⟩,by rfl,h0,rfl,rfl⟩
 simp only [cond_false]
 cases h2:decide (r.Seq < la.1.Seq)
 case true=>exact ⟨⟨9,[]⟩,false,⟨T,S,i,e⟩,by rfl,h0,rfl,rfl⟩
 simp only [cond_false]
 rw [abK _ _ hT,Option.bind_some]
 obtain ⟨⟨b,e1,e2⟩,e3⟩:=BX ⟨r.Client,r.Seq,(T_ r.Op T.l).1⟩ S hS
 simp only [vQ]
 rw [ZN _ _ (by simp only;omega)]
 simp only [e2,Option.bind_some]
 have ha:=al2 hP r.Op hr.2.2.2.2
 refine ⟨_,_,⟨⟨(T_ r.Op T.l).2⟩,vP S ⟨r.Client,r.Seq,(T_ r.Op T.l).1⟩,i,e⟩,rfl,⟨⟨alb hT _,e3⟩,ahK hP _,λy hy=>?_⟩,rfl,rfl⟩
 rcases ahX hy with k | rfl
 ·exact hA y k
 ·have hs:=hr.2.2.2.1
  unfold U0
  simp only
  rw [bI ha.2,bI hs]
  rcases ha.1 with k | k | k | k<;>rw [k]<;>rfl
end Go.Proofs.YtohoggieaanllaaGreat
