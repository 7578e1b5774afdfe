import Derived.Test.YtkedeiklmpkgkaaJ5
import Derived.Test.YtkedeiklmpkgkaaRows
import Derived.Test.YtkedeiklmpkgkaaPuWalTells
import Derived.Test.YtkedeiklmpkgkaaLkWalTells
set_option linter.all false
set_option linter.unusedSimpArgs false
namespace Go.Proofs.Ytkedeiklmpkgkaa.walTells
open Go.ChangeShapes Go.WideShapes Go.ChangeAt Go.RowKit
mutual
theorem Xx{H:Type}:∀d:DataW H,(sI d).bulk≤Rows.uptoBulk d
 |.lit (.string b)=>by simp[sI,D.bulk,Rows.uptoBulk]
 |.lit (.bool b)=>by simp[sI,D.bulk,Rows.uptoBulk]
 |.lit (.int k b)=>by simp[sI,D.bulk,Rows.uptoBulk]
 |.lit (.float k b)=>by simp[sI,D.bulk]
 |.lit .nil=>by simp[sI,D.bulk]
 |.nil=>by simp[sI,D.bulk,D.qW,Rows.uptoBulk]
 |.slice es sp=>by
  have:=C_ es
  simp only[sI,D.bulk,Rows.uptoBulk]
  omega
 |.agg es=>by
  have:=C_ es
  simp only[sI,D.bulk,Rows.uptoBulk]
  omega
 |.ptr d=>by simp[sI,D.bulk]
 |.iface n d=>by simp[sI,D.bulk]
 |.map es=>by simp[sI,D.bulk]
 |.held h=>by simp[sI,D.bulk]
theorem C_{H:Type}:∀l:List (DataW H),D.qW (Dp l)≤Rows.uptoBulkAll l
 | []=>by simp[Dp,D.qW]
 | d::r=>by
  have h1:=Xx d
  have h2:=C_ r
  simp only[Dp,D.qW,Rows.uptoBulkAll]
  omega
end
set_option maxRecDepth 100000 in
theorem lifted (os:Os) (started:os.Started) (H:Type) (enc:TypeId×Value→H) (F0:Stop.Interp) :
  ReturnsInHanded {} Try.checked os 8 .any ((Rows.OpenSpec.upto Rows.walTellsSpec).pre6 enc Try.prog Try.f8 Rows.walTellsUptoRow.domain false) (((Rows.OpenSpec.upto Rows.walTellsSpec).at F0).post enc Try.prog Try.f8 false true false false):=by
 refine returnsInHanded_of_cond_sized (C:=Try.checked) (s:=Rows.OpenSpec.upto Rows.walTellsSpec) (k:=Rows.uptoSmall) rfl aa1 started (by kernel_rfl) Try.func8
  (OpenSpec.witness (enc:=enc) (C:=Try.checked) (s:=Rows.OpenSpec.upto Rows.walTellsSpec) (k:=Rows.uptoSmall) rfl false ⟨#[],#[.slice none 0 0,.slice none 0 0],[]⟩ 8 (by kernel_rfl) (by kernel_rfl) (by kernel_rfl)
   (x:=([.nil,.nil],[],[])) (by kernel_rfl) (by kernel_rfl) (by kernel_rfl)) ?_
 intro W base args ds gs before hval0 hW _ hk _ _
 have hval:∀(j:Nat) t v,Try.f8.params.toList[j]?=some t→args.toList[j]?=some v→Value.okWide Try.prog W .any base t v:=λj t v h1 h2=>hval0 j t v (by rw[←Array.getElem?_toList];exact h1) (by rw[←Array.getElem?_toList];exact h2)
 have hW1:DataW.Whole enc Try.prog Try.f8.params.toList Rows.walTellsSpec.vars false W args.toList ds gs before:=hW
 have hW':=hW1
 obtain⟨p,q,hA,hV,_,_,_⟩:=hW'
 have hgs:gs=[]:=by
  cases gs with
  | nil=>rfl
  | cons _ _=>simp[DataW.TrodVars,Rows.walTellsSpec]at hV
 have hlen:ds.length=2:=by
  have hA1:=hA
  rw[Try.params8]at hA1
  obtain⟨v0,vs0,d0,ds0,p0,q0,_,rfl,_,_,r0⟩:=trodAll_cons hA1;obtain⟨v1,vs1,d1,ds1,p1,q1,_,rfl,_,_,r1⟩:=trodAll_cons r0;
  obtain⟨_,rfl,_⟩:=trodAll_nil r1
  rfl
 have hb:D.qW (ds.map sI)≤1048576:=by
  have h1:Rows.uptoBulkAll (ds++gs)≤1048576:=of_decide_eq_true hk
  rw[hgs,List.append_nil]at h1
  have h2:=C_ ds
  rw[wo]at h2
  omega
 refine(L6 (P:=Try.prog) (k:=10) laidOut (Qa (G:=wG) (T:=UA) ZI (λ_ _ h=>Xt h) KK 9 (f:=8) rfl) pure (ts:=Try.f8.params.toList) (by kernel_rfl) (by kernel_rfl) hval hA hb).mono λe W' ⟨he,Ym⟩=>?_
 subst he
 refine⟨_,rfl,RY (s:=Rows.walTellsSpec) laidOut (by kernel_rfl) rfl rfl Try.underlying4 ?_ hW1 Ym⟩
 match ds,hlen with
 | [_,_],_=>rfl
end Go.Proofs.Ytkedeiklmpkgkaa.walTells
