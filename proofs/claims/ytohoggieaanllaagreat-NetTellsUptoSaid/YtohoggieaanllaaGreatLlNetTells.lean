import Derived.Test.YtohoggieaanllaaGreatJ6
import Derived.Test.YtohoggieaanllaaGreatRows
import Derived.Test.YtohoggieaanllaaGreatPuNetTells
import Derived.Test.YtohoggieaanllaaGreatLkNetTells
set_option linter.all false
set_option linter.unusedSimpArgs false
namespace Go.Proofs.YtohoggieaanllaaGreat.netTells
open Go.ChangeShapes Go.WideShapes Go.ChangeAt Go.RowKit
mutual
theorem ayA{H:Type}:∀d:DataW H,(IK d).bulk≤Rows.uptoBulk d
 |.lit (.string b)=>by simp[IK,D.bulk,Rows.uptoBulk]
 |.lit (.bool b)=>by simp[IK,D.bulk,Rows.uptoBulk]
 |.lit (.int k b)=>by simp[IK,D.bulk,Rows.uptoBulk]
 |.lit (.float k b)=>by simp[IK,D.bulk]
 |.lit .nil=>by simp[IK,D.bulk]
 |.nil=>by simp[IK,D.bulk,D.CB,Rows.uptoBulk]
 |.slice es sp=>by
  have:=Yd es
  simp only[IK,D.bulk,Rows.uptoBulk]
  omega
 |.agg es=>by
  have:=Yd es
  simp only[IK,D.bulk,Rows.uptoBulk]
  omega
 |.ptr d=>by simp[IK,D.bulk]
 |.iface n d=>by simp[IK,D.bulk]
 |.map es=>by simp[IK,D.bulk]
 |.held h=>by simp[IK,D.bulk]
theorem Yd{H:Type}:∀l:List (DataW H),D.CB (Yr l)≤Rows.uptoBulkAll l
 | []=>by simp[Yr,D.CB]
 | d::r=>by
  have h1:=ayA d
  have h2:=Yd r
  simp only[Yr,D.CB,Rows.uptoBulkAll]
  omega
end
set_option maxRecDepth 100000 in
theorem lifted (os:Os) (started:os.Started) (H:Type) (enc:TypeId×Value→H) (F0:Stop.Interp) :
  ReturnsInHanded {} Tryz.checked os 7 .any ((Rows.OpenSpec.upto Rows.netTellsSpec).pre6 enc Tryz.prog Tryz.f7 Rows.netTellsUptoRow.domain false) (((Rows.OpenSpec.upto Rows.netTellsSpec).at F0).post enc Tryz.prog Tryz.f7 false true false false):=by
 refine returnsInHanded_of_cond_sized (C:=Tryz.checked) (s:=Rows.OpenSpec.upto Rows.netTellsSpec) (k:=Rows.uptoSmall) rfl aDz started (by kernel_rfl) Tryz.func7
  (OpenSpec.witness (enc:=enc) (C:=Tryz.checked) (s:=Rows.OpenSpec.upto Rows.netTellsSpec) (k:=Rows.uptoSmall) rfl false ⟨#[],#[.slice none 0 0],[]⟩ 8 (by kernel_rfl) (by kernel_rfl) (by kernel_rfl)
   (x:=([.nil],[],[])) (by kernel_rfl) (by kernel_rfl) (by kernel_rfl)) ?_
 intro W base args ds gs before hval0 hW _ hk _ _
 have hval:∀(j:Nat) t v,Tryz.f7.params.toList[j]?=some t→args.toList[j]?=some v→Value.okWide Tryz.prog W .any base t v:=λj t v h1 h2=>hval0 j t v (by rw[←Array.getElem?_toList];exact h1) (by rw[←Array.getElem?_toList];exact h2)
 have hW1:DataW.Whole enc Tryz.prog Tryz.f7.params.toList Rows.netTellsSpec.vars false W args.toList ds gs before:=hW
 have hW':=hW1
 obtain⟨p,q,hA,hV,_,_,_⟩:=hW'
 have hgs:gs=[]:=by
  cases gs with
  | nil=>rfl
  | cons _ _=>simp[DataW.TrodVars,Rows.netTellsSpec]at hV
 have hlen:ds.length=1:=by
  have hA1:=hA
  rw[Tryz.params7]at hA1
  obtain⟨v0,vs0,d0,ds0,p0,q0,_,rfl,_,_,r0⟩:=trodAll_cons hA1;
  obtain⟨_,rfl,_⟩:=trodAll_nil r0
  rfl
 have hb:D.CB (ds.map IK)≤1048576:=by
  have h1:Rows.uptoBulkAll (ds++gs)≤1048576:=of_decide_eq_true hk
  rw[hgs,List.append_nil]at h1
  have h2:=Yd ds
  rw[NV]at h2
  omega
 refine(aiJ (P:=Tryz.prog) (k:=10) laidOut (afo (G:=wG) (T:=atL) aAK (λ_ _ h=>ayj h) KK 16 (f:=7) rfl) pure (ts:=Tryz.f7.params.toList) (by kernel_rfl) (by kernel_rfl) hval hA hb).mono λe W' ⟨he,bel⟩=>?_
 subst he
 refine⟨_,rfl,apY (s:=Rows.netTellsSpec) laidOut (by kernel_rfl) rfl rfl Tryz.underlying4 ?_ hW1 bel⟩
 match ds,hlen with
 | [_],_=>rfl
end Go.Proofs.YtohoggieaanllaaGreat.netTells
