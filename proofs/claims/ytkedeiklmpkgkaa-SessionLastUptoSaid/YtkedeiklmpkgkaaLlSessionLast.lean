import Derived.Test.YtkedeiklmpkgkaaJ5
import Derived.Test.YtkedeiklmpkgkaaRows
import Derived.Test.YtkedeiklmpkgkaaPuSessionLast
import Derived.Test.YtkedeiklmpkgkaaLkSessionLast
set_option linter.all false
set_option linter.unusedSimpArgs false
namespace Go.Proofs.Ytkedeiklmpkgkaa.sessionLast
open Go.ChangeShapes Go.WideShapes Go.ChangeAt Go.RowKit
mutual
theorem Gx{H:Type}:∀d:DataW H,(kY d).bulk≤Rows.uptoBulk d
 |.lit (.string b)=>by simp[kY,D.bulk,Rows.uptoBulk]
 |.lit (.bool b)=>by simp[kY,D.bulk,Rows.uptoBulk]
 |.lit (.int k b)=>by simp[kY,D.bulk,Rows.uptoBulk]
 |.lit (.float k b)=>by simp[kY,D.bulk]
 |.lit .nil=>by simp[kY,D.bulk]
 |.nil=>by simp[kY,D.bulk,D.kI,Rows.uptoBulk]
 |.slice es sp=>by
  have:=rC es
  simp only[kY,D.bulk,Rows.uptoBulk]
  omega
 |.agg es=>by
  have:=rC es
  simp only[kY,D.bulk,Rows.uptoBulk]
  omega
 |.ptr d=>by simp[kY,D.bulk]
 |.iface n d=>by simp[kY,D.bulk]
 |.map es=>by simp[kY,D.bulk]
 |.held h=>by simp[kY,D.bulk]
theorem rC{H:Type}:∀l:List (DataW H),D.kI (rV l)≤Rows.uptoBulkAll l
 | []=>by simp[rV,D.kI]
 | d::r=>by
  have h1:=Gx d
  have h2:=rC r
  simp only[rV,D.kI,Rows.uptoBulkAll]
  omega
end
set_option maxRecDepth 100000 in
theorem lifted (os:Os) (started:os.Started) (H:Type) (enc:TypeId×Value→H) (F0:Stop.Interp) :
  ReturnsInHanded {} Try.checked os 3 .any ((Rows.OpenSpec.upto Rows.sessionLastSpec).pre6 enc Try.prog Try.f3 Rows.sessionLastUptoRow.domain false) (((Rows.OpenSpec.upto Rows.sessionLastSpec).at F0).post enc Try.prog Try.f3 false true false false):=by
 refine returnsInHanded_of_cond_sized (C:=Try.checked) (s:=Rows.OpenSpec.upto Rows.sessionLastSpec) (k:=Rows.uptoSmall) rfl Kw started (by kernel_rfl) Try.func3
  (OpenSpec.witness (enc:=enc) (C:=Try.checked) (s:=Rows.OpenSpec.upto Rows.sessionLastSpec) (k:=Rows.uptoSmall) rfl false ⟨#[],#[.slice none 0 0],[]⟩ 8 (by kernel_rfl) (by kernel_rfl) (by kernel_rfl)
   (x:=([.nil],[],[])) (by kernel_rfl) (by kernel_rfl) (by kernel_rfl)) ?_
 intro W base args ds gs before hval0 hW _ hk _ _
 have hval:∀(j:Nat) t v,Try.f3.params.toList[j]?=some t→args.toList[j]?=some v→Value.okWide Try.prog W .any base t v:=λj t v h1 h2=>hval0 j t v (by rw[←Array.getElem?_toList];exact h1) (by rw[←Array.getElem?_toList];exact h2)
 have hW1:DataW.Whole enc Try.prog Try.f3.params.toList Rows.sessionLastSpec.vars false W args.toList ds gs before:=hW
 have hW':=hW1
 obtain⟨p,q,hA,hV,_,_,_⟩:=hW'
 have hgs:gs=[]:=by
  cases gs with
  | nil=>rfl
  | cons _ _=>simp[DataW.TrodVars,Rows.sessionLastSpec]at hV
 have hlen:ds.length=1:=by
  have hA1:=hA
  rw[Try.params3]at hA1
  obtain⟨v0,JI,d0,ds0,p0,q0,_,rfl,_,_,r0⟩:=trodAll_cons hA1;
  obtain⟨_,rfl,_⟩:=trodAll_nil r0
  rfl
 have hb:D.kI (ds.map kY)≤1048576:=by
  have h1:Rows.uptoBulkAll (ds++gs)≤1048576:=of_decide_eq_true hk
  rw[hgs,List.append_nil]at h1
  have h2:=rC ds
  rw[nA]at h2
  omega
 refine(zo (P:=Try.prog) (k:=10) laidOut (Ce (G:=wG) (T:=EO) JE (λ_ _ h=>Gt h) KK 4 (f:=3) rfl) pure (ts:=Try.f3.params.toList) (by kernel_rfl) (by kernel_rfl) hval hA hb).mono λe W' ⟨he,H8⟩=>?_
 subst he
 refine⟨_,rfl,DK (s:=Rows.sessionLastSpec) laidOut (by kernel_rfl) rfl rfl Try.underlying4 ?_ hW1 H8⟩
 match ds,hlen with
 | [_],_=>rfl
end Go.Proofs.Ytkedeiklmpkgkaa.sessionLast
