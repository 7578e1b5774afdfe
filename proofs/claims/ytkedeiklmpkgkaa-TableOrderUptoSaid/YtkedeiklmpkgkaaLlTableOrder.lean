import Derived.Test.YtkedeiklmpkgkaaJ5
import Derived.Test.YtkedeiklmpkgkaaRows
import Derived.Test.YtkedeiklmpkgkaaPuTableOrder
import Derived.Test.YtkedeiklmpkgkaaLkTableOrder
set_option linter.all false
set_option linter.unusedSimpArgs false
namespace Go.Proofs.Ytkedeiklmpkgkaa.tableOrder
open Go.ChangeShapes Go.WideShapes Go.ChangeAt Go.RowKit
mutual
theorem Pk{H:Type}:∀d:DataW H,(oU d).bulk≤Rows.uptoBulk d
 |.lit (.string b)=>by simp[oU,D.bulk,Rows.uptoBulk]
 |.lit (.bool b)=>by simp[oU,D.bulk,Rows.uptoBulk]
 |.lit (.int k b)=>by simp[oU,D.bulk,Rows.uptoBulk]
 |.lit (.float k b)=>by simp[oU,D.bulk]
 |.lit .nil=>by simp[oU,D.bulk]
 |.nil=>by simp[oU,D.bulk,D.nR,Rows.uptoBulk]
 |.slice es sp=>by
  have:=xU es
  simp only[oU,D.bulk,Rows.uptoBulk]
  omega
 |.agg es=>by
  have:=xU es
  simp only[oU,D.bulk,Rows.uptoBulk]
  omega
 |.ptr d=>by simp[oU,D.bulk]
 |.iface n d=>by simp[oU,D.bulk]
 |.map es=>by simp[oU,D.bulk]
 |.held h=>by simp[oU,D.bulk]
theorem xU{H:Type}:∀l:List (DataW H),D.nR (yu l)≤Rows.uptoBulkAll l
 | []=>by simp[yu,D.nR]
 | d::r=>by
  have h1:=Pk d
  have h2:=xU r
  simp only[yu,D.nR,Rows.uptoBulkAll]
  omega
end
set_option maxRecDepth 100000 in
theorem lifted (os:Os) (started:os.Started) (H:Type) (enc:TypeId×Value→H) (F0:Stop.Interp) :
  ReturnsInHanded {} Try.checked os 10 .any ((Rows.OpenSpec.upto Rows.tableOrderSpec).pre6 enc Try.prog Try.f10 Rows.tableOrderUptoRow.domain false) (((Rows.OpenSpec.upto Rows.tableOrderSpec).at F0).post enc Try.prog Try.f10 false true false false):=by
 refine returnsInHanded_of_cond_sized (C:=Try.checked) (s:=Rows.OpenSpec.upto Rows.tableOrderSpec) (k:=Rows.uptoSmall) rfl T9 started (by kernel_rfl) Try.func10
  (OpenSpec.witness (enc:=enc) (C:=Try.checked) (s:=Rows.OpenSpec.upto Rows.tableOrderSpec) (k:=Rows.uptoSmall) rfl false ⟨#[],#[.slice none 0 0,.int .i64 0,.slice none 0 0],[]⟩ 8 (by kernel_rfl) (by kernel_rfl) (by kernel_rfl)
   (x:=([.nil,.lit (.int .i64 0),.nil],[],[])) (by kernel_rfl) (by kernel_rfl) (by kernel_rfl)) ?_
 intro W base args ds gs before hval0 hW _ hk _ _
 have hval:∀(j:Nat) t v,Try.f10.params.toList[j]?=some t→args.toList[j]?=some v→Value.okWide Try.prog W .any base t v:=λj t v h1 h2=>hval0 j t v (by rw[←Array.getElem?_toList];exact h1) (by rw[←Array.getElem?_toList];exact h2)
 have hW1:DataW.Whole enc Try.prog Try.f10.params.toList Rows.tableOrderSpec.vars false W args.toList ds gs before:=hW
 have hW':=hW1
 obtain⟨p,q,hA,hV,_,_,_⟩:=hW'
 have hgs:gs=[]:=by
  cases gs with
  | nil=>rfl
  | cons _ _=>simp[DataW.TrodVars,Rows.tableOrderSpec]at hV
 have hlen:ds.length=3:=by
  have hA1:=hA
  rw[Try.params10]at hA1
  obtain⟨v0,Sm,d0,ds0,p0,q0,_,rfl,_,_,r0⟩:=trodAll_cons hA1;obtain⟨v1,vs1,d1,ds1,p1,q1,_,rfl,_,_,r1⟩:=trodAll_cons r0;obtain⟨v2,vs2,d2,V9,p2,q2,_,rfl,_,_,r2⟩:=trodAll_cons r1;
  obtain⟨_,rfl,_⟩:=trodAll_nil r2
  rfl
 have hb:D.nR (ds.map oU)≤1048576:=by
  have h1:Rows.uptoBulkAll (ds++gs)≤1048576:=of_decide_eq_true hk
  rw[hgs,List.append_nil]at h1
  have h2:=xU ds
  rw[rO]at h2
  omega
 refine(FI (P:=Try.prog) (k:=10) laidOut (Cz (G:=wG) (T:=MI) R4 (λ_ _ h=>O9 h) KK 8 (f:=10) rfl) pure (ts:=Try.f10.params.toList) (by kernel_rfl) (by kernel_rfl) hval hA hb).mono λe W' ⟨he,Qr⟩=>?_
 subst he
 refine⟨_,rfl,KF (s:=Rows.tableOrderSpec) laidOut (by kernel_rfl) rfl rfl Try.underlying4 ?_ hW1 Qr⟩
 match ds,hlen with
 | [_,_,_],_=>rfl
end Go.Proofs.Ytkedeiklmpkgkaa.tableOrder
