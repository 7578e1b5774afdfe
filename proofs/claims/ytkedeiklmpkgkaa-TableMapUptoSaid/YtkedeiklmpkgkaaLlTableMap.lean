import Derived.Test.YtkedeiklmpkgkaaJ5
import Derived.Test.YtkedeiklmpkgkaaRows
import Derived.Test.YtkedeiklmpkgkaaPuTableMap
import Derived.Test.YtkedeiklmpkgkaaLkTableMap
set_option linter.all false
set_option linter.unusedSimpArgs false
namespace Go.Proofs.Ytkedeiklmpkgkaa.tableMap
open Go.ChangeShapes Go.WideShapes Go.ChangeAt Go.RowKit
mutual
theorem Ov{H:Type}:∀d:DataW H,(nS d).bulk≤Rows.uptoBulk d
 |.lit (.string b)=>by simp[nS,D.bulk,Rows.uptoBulk]
 |.lit (.bool b)=>by simp[nS,D.bulk,Rows.uptoBulk]
 |.lit (.int k b)=>by simp[nS,D.bulk,Rows.uptoBulk]
 |.lit (.float k b)=>by simp[nS,D.bulk]
 |.lit .nil=>by simp[nS,D.bulk]
 |.nil=>by simp[nS,D.bulk,D.m_,Rows.uptoBulk]
 |.slice es sp=>by
  have:=wS es
  simp only[nS,D.bulk,Rows.uptoBulk]
  omega
 |.agg es=>by
  have:=wS es
  simp only[nS,D.bulk,Rows.uptoBulk]
  omega
 |.ptr d=>by simp[nS,D.bulk]
 |.iface n d=>by simp[nS,D.bulk]
 |.map es=>by simp[nS,D.bulk]
 |.held h=>by simp[nS,D.bulk]
theorem wS{H:Type}:∀l:List (DataW H),D.m_ (xq l)≤Rows.uptoBulkAll l
 | []=>by simp[xq,D.m_]
 | d::r=>by
  have h1:=Ov d
  have h2:=wS r
  simp only[xq,D.m_,Rows.uptoBulkAll]
  omega
end
set_option maxRecDepth 100000 in
theorem lifted (os:Os) (started:os.Started) (H:Type) (enc:TypeId×Value→H) (F0:Stop.Interp) :
  ReturnsInHanded {} Try.checked os 9 .any ((Rows.OpenSpec.upto Rows.tableMapSpec).pre6 enc Try.prog Try.f9 Rows.tableMapUptoRow.domain false) (((Rows.OpenSpec.upto Rows.tableMapSpec).at F0).post enc Try.prog Try.f9 false true false false):=by
 refine returnsInHanded_of_cond_sized (C:=Try.checked) (s:=Rows.OpenSpec.upto Rows.tableMapSpec) (k:=Rows.uptoSmall) rfl SK started (by kernel_rfl) Try.func9
  (OpenSpec.witness (enc:=enc) (C:=Try.checked) (s:=Rows.OpenSpec.upto Rows.tableMapSpec) (k:=Rows.uptoSmall) rfl false ⟨#[],#[.slice none 0 0],[]⟩ 8 (by kernel_rfl) (by kernel_rfl) (by kernel_rfl)
   (x:=([.nil],[],[])) (by kernel_rfl) (by kernel_rfl) (by kernel_rfl)) ?_
 intro W base args ds gs before hval0 hW _ hk _ _
 have hval:∀(j:Nat) t v,Try.f9.params.toList[j]?=some t→args.toList[j]?=some v→Value.okWide Try.prog W .any base t v:=λj t v h1 h2=>hval0 j t v (by rw[←Array.getElem?_toList];exact h1) (by rw[←Array.getElem?_toList];exact h2)
 have hW1:DataW.Whole enc Try.prog Try.f9.params.toList Rows.tableMapSpec.vars false W args.toList ds gs before:=hW
 have hW':=hW1
 obtain⟨p,q,hA,hV,_,_,_⟩:=hW'
 have hgs:gs=[]:=by
  cases gs with
  | nil=>rfl
  | cons _ _=>simp[DataW.TrodVars,Rows.tableMapSpec]at hV
 have hlen:ds.length=1:=by
  have hA1:=hA
  rw[Try.params9]at hA1
  obtain⟨v0,Rp,d0,ds0,p0,q0,_,rfl,_,_,r0⟩:=trodAll_cons hA1;
  obtain⟨_,rfl,_⟩:=trodAll_nil r0
  rfl
 have hb:D.m_ (ds.map nS)≤1048576:=by
  have h1:Rows.uptoBulkAll (ds++gs)≤1048576:=of_decide_eq_true hk
  rw[hgs,List.append_nil]at h1
  have h2:=wS ds
  rw[qH]at h2
  omega
 refine(ED (P:=Try.prog) (k:=10) laidOut (BA (G:=wG) (T:=LH) Q7 (λ_ _ h=>Oj h) KK 8 (f:=9) rfl) pure (ts:=Try.f9.params.toList) (by kernel_rfl) (by kernel_rfl) hval hA hb).mono λe W' ⟨he,Pz⟩=>?_
 subst he
 refine⟨_,rfl,JJ (s:=Rows.tableMapSpec) laidOut (by kernel_rfl) rfl rfl Try.underlying4 ?_ hW1 Pz⟩
 match ds,hlen with
 | [_],_=>rfl
end Go.Proofs.Ytkedeiklmpkgkaa.tableMap
