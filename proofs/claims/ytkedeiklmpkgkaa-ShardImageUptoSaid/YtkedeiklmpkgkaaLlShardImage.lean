import Derived.Test.YtkedeiklmpkgkaaJ5
import Derived.Test.YtkedeiklmpkgkaaRows
import Derived.Test.YtkedeiklmpkgkaaPuShardImage
import Derived.Test.YtkedeiklmpkgkaaLkShardImage
set_option linter.all false
set_option linter.unusedSimpArgs false
namespace Go.Proofs.Ytkedeiklmpkgkaa.shardImage
open Go.ChangeShapes Go.WideShapes Go.ChangeAt Go.RowKit
mutual
theorem Zw{H:Type}:∀d:DataW H,(xH d).bulk≤Rows.uptoBulk d
 |.lit (.string b)=>by simp[xH,D.bulk,Rows.uptoBulk]
 |.lit (.bool b)=>by simp[xH,D.bulk,Rows.uptoBulk]
 |.lit (.int k b)=>by simp[xH,D.bulk,Rows.uptoBulk]
 |.lit (.float k b)=>by simp[xH,D.bulk]
 |.lit .nil=>by simp[xH,D.bulk]
 |.nil=>by simp[xH,D.bulk,D.wu,Rows.uptoBulk]
 |.slice es sp=>by
  have:=Gj es
  simp only[xH,D.bulk,Rows.uptoBulk]
  omega
 |.agg es=>by
  have:=Gj es
  simp only[xH,D.bulk,Rows.uptoBulk]
  omega
 |.ptr d=>by simp[xH,D.bulk]
 |.iface n d=>by simp[xH,D.bulk]
 |.map es=>by simp[xH,D.bulk]
 |.held h=>by simp[xH,D.bulk]
theorem Gj{H:Type}:∀l:List (DataW H),D.wu (Gw l)≤Rows.uptoBulkAll l
 | []=>by simp[Gw,D.wu]
 | d::r=>by
  have h1:=Zw d
  have h2:=Gj r
  simp only[Gw,D.wu,Rows.uptoBulkAll]
  omega
end
set_option maxRecDepth 100000 in
theorem lifted (os:Os) (started:os.Started) (H:Type) (enc:TypeId×Value→H) (F0:Stop.Interp) :
  ReturnsInHanded {} Try.checked os 11 .any ((Rows.OpenSpec.upto Rows.shardImageSpec).pre6 enc Try.prog Try.f11 Rows.shardImageUptoRow.domain false) (((Rows.OpenSpec.upto Rows.shardImageSpec).at F0).post enc Try.prog Try.f11 false true false false):=by
 refine returnsInHanded_of_cond_sized (C:=Try.checked) (s:=Rows.OpenSpec.upto Rows.shardImageSpec) (k:=Rows.uptoSmall) rfl acI started (by kernel_rfl) Try.func11
  (OpenSpec.witness (enc:=enc) (C:=Try.checked) (s:=Rows.OpenSpec.upto Rows.shardImageSpec) (k:=Rows.uptoSmall) rfl false ⟨#[],#[.int .i64 0,.int .i64 0,.slice none 0 0,.slice none 0 0],[]⟩ 8 (by kernel_rfl) (by kernel_rfl) (by kernel_rfl)
   (x:=([.lit (.int .i64 0),.lit (.int .i64 0),.nil,.nil],[],[])) (by kernel_rfl) (by kernel_rfl) (by kernel_rfl)) ?_
 intro W base args ds gs before hval0 hW _ hk _ _
 have hval:∀(j:Nat) t v,Try.f11.params.toList[j]?=some t→args.toList[j]?=some v→Value.okWide Try.prog W .any base t v:=λj t v h1 h2=>hval0 j t v (by rw[←Array.getElem?_toList];exact h1) (by rw[←Array.getElem?_toList];exact h2)
 have hW1:DataW.Whole enc Try.prog Try.f11.params.toList Rows.shardImageSpec.vars false W args.toList ds gs before:=hW
 have hW':=hW1
 obtain⟨p,q,hA,hV,_,_,_⟩:=hW'
 have hgs:gs=[]:=by
  cases gs with
  | nil=>rfl
  | cons _ _=>simp[DataW.TrodVars,Rows.shardImageSpec]at hV
 have hlen:ds.length=4:=by
  have hA1:=hA
  rw[Try.params11]at hA1
  obtain⟨v0,vs0,d0,ds0,p0,q0,_,rfl,_,_,r0⟩:=trodAll_cons hA1;obtain⟨v1,vs1,d1,ds1,p1,q1,_,rfl,_,_,r1⟩:=trodAll_cons r0;obtain⟨v2,vs2,d2,ds2,p2,q2,_,rfl,_,_,r2⟩:=trodAll_cons r1;obtain⟨v3,vs3,d3,ds3,p3,q3,_,rfl,_,_,r3⟩:=trodAll_cons r2;
  obtain⟨_,rfl,_⟩:=trodAll_nil r3
  rfl
 have hb:D.wu (ds.map xH)≤1048576:=by
  have h1:Rows.uptoBulkAll (ds++gs)≤1048576:=of_decide_eq_true hk
  rw[hgs,List.append_nil]at h1
  have h2:=Gj ds
  rw[AO]at h2
  omega
 refine(OI (P:=Try.prog) (k:=10) laidOut (Lc (G:=wG) (T:=Ww) abm (λ_ _ h=>Zo h) KK 10 (f:=11) rfl) pure (ts:=Try.f11.params.toList) (by kernel_rfl) (by kernel_rfl) hval hA hb).mono λe W' ⟨he,bel⟩=>?_
 subst he
 refine⟨_,rfl,Uo (s:=Rows.shardImageSpec) laidOut (by kernel_rfl) rfl rfl Try.underlying4 ?_ hW1 bel⟩
 match ds,hlen with
 | [_,_,_,_],_=>rfl
end Go.Proofs.Ytkedeiklmpkgkaa.shardImage
