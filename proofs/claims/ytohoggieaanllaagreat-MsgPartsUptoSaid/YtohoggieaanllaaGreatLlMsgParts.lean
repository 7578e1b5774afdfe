import Derived.Test.YtohoggieaanllaaGreatJ5
import Derived.Test.YtohoggieaanllaaGreatRows
import Derived.Test.YtohoggieaanllaaGreatPuMsgParts
import Derived.Test.YtohoggieaanllaaGreatLkMsgParts
set_option linter.all false
set_option linter.unusedSimpArgs false
namespace Go.Proofs.YtohoggieaanllaaGreat.msgParts
open Go.ChangeShapes Go.WideShapes Go.ChangeAt Go.RowKit
mutual
theorem akK {H:Type}:∀ d:DataW H,(Ba d).bulk≤Rows.uptoBulk d
 | .lit (.string b)=>by simp [Ba,D.bulk,Rows.uptoBulk]
 | .lit (.bool b)=>by simp [Ba,D.bulk,Rows.uptoBulk]
 | .lit (.int k b)=>by simp [Ba,D.bulk,Rows.uptoBulk]
 | .lit (.float k b)=>by simp [Ba,D.bulk]
 | .lit .nil=>by simp [Ba,D.bulk]
 | .nil=>by simp [Ba,D.bulk,D.xU,Rows.uptoBulk]
 | .slice es sp=>by
  have:=NI es
  simp only [Ba,D.bulk,Rows.uptoBulk]
  omega
 | .agg es=>by
  have:=NI es
  simp only [Ba,D.bulk,Rows.uptoBulk]
  omega
 | .ptr d=>by simp [Ba,D.bulk]
 | .iface n d=>by simp [Ba,D.bulk]
 | .map es=>by simp [Ba,D.bulk]
 | .held h=>by simp [Ba,D.bulk]
theorem NI {H:Type}:∀ l:List (DataW H),D.xU (NZ l)≤Rows.uptoBulkAll l
 | []=>by simp [NZ,D.xU]
 | d::r=>by
  have h1:=akK d
  have h2:=NI r
  simp only [NZ,D.xU,Rows.uptoBulkAll]
  omega
end
set_option maxRecDepth 100000 in
theorem lifted (os:Os) (started:os.Started) (H:Type) (enc:TypeId×Value→H) (F0:Stop.Interp) :
  ReturnsInHanded {} Tryz.checked os 4 .any ((Rows.OpenSpec.upto Rows.msgPartsSpec).pre6 enc Tryz.prog Tryz.f4 Rows.msgPartsUptoRow.domain false) (((Rows.OpenSpec.upto Rows.msgPartsSpec).at F0).post enc Tryz.prog Tryz.f4 false true false false):=by
 refine returnsInHanded_of_cond_sized (C:=Tryz.checked) (s:=Rows.OpenSpec.upto Rows.msgPartsSpec) (k:=Rows.uptoSmall) rfl aoG started (by kernel_rfl) Tryz.func4
  (OpenSpec.witness (enc:=enc) (C:=Tryz.checked) (s:=Rows.OpenSpec.upto Rows.msgPartsSpec) (k:=Rows.uptoSmall) rfl false ⟨#[],#[.agg #[.int .i64 0,.int .i64 0,.int .i64 0,.int .i64 0,.int .i64 0,.int .i64 0,.int .i64 0,.int .i64 0,.int .i64 0,.int .i64 0,.bool false,.int .i64 0,.int .i64 0,.int .i64 0,.int .i64 0,.int .i64 0,.int .i64 0,.int .i64 0,.string ByteArray.empty,.slice none 0 0,.slice none 0 0,.slice none 0 0],.int .i64 0],[]⟩ 8 (by kernel_rfl) (by kernel_rfl) (by kernel_rfl)
   (x:=([.agg [.lit (.int .i64 0),.lit (.int .i64 0),.lit (.int .i64 0),.lit (.int .i64 0),.lit (.int .i64 0),.lit (.int .i64 0),.lit (.int .i64 0),.lit (.int .i64 0),.lit (.int .i64 0),.lit (.int .i64 0),.lit (.bool false),.agg [.lit (.int .i64 0),.lit (.int .i64 0),.lit (.int .i64 0),.lit (.int .i64 0),.lit (.int .i64 0),.lit (.int .i64 0),.lit (.int .i64 0),.lit (.string [])],.nil,.nil,.nil],.lit (.int .i64 0)],[],[])) (by kernel_rfl) (by kernel_rfl) (by kernel_rfl)) ?_
 intro W base args ds gs before hval0 hW _ hk _ _
 have hval:∀ (j:Nat) t v,Tryz.f4.params.toList[j]?=some t→args.toList[j]?=some v→Value.okWide Tryz.prog W .any base t v:=λj t v h1 h2=>hval0 j t v (by rw [← Array.getElem?_toList];exact h1) (by rw [← Array.getElem?_toList];exact h2)
 have hW1:DataW.Whole enc Tryz.prog Tryz.f4.params.toList Rows.msgPartsSpec.vars false W args.toList ds gs before:=hW
 have hW':=hW1
 obtain ⟨p,q,hA,hV,_,_,_⟩:=hW'
 have hgs:gs=[]:=by
  cases gs with
  | nil=>rfl
  | cons _ _=>simp [DataW.TrodVars,Rows.msgPartsSpec] at hV
 have hlen:ds.length=2:=by
  have hA1:=hA
  rw [Tryz.params4] at hA1
  obtain ⟨v0,vs0,d0,ds0,p0,q0,_,rfl,_,_,r0⟩:=trodAll_cons hA1;obtain ⟨v1,vs1,d1,ds1,p1,q1,_,rfl,_,_,r1⟩:=trodAll_cons r0;
  obtain ⟨_,rfl,_⟩:=trodAll_nil r1
  rfl
 have hb:D.xU (ds.map Ba)≤1048576:=by
  have h1:Rows.uptoBulkAll (ds++gs)≤1048576:=of_decide_eq_true hk
  rw [hgs,List.append_nil] at h1
  have h2:=NI ds
  rw [Fu] at h2
  omega
 refine (Yw (P:=Tryz.prog) (k:=10) laidOut (Ve (G:=wG) (T:=ahx) amt (λ_ _ h=>akB h) KK 15 (f:=4) rfl) pure (ts:=Tryz.f4.params.toList) (by kernel_rfl) (by kernel_rfl) hval hA hb).mono λe W' ⟨he,bel⟩=>?_
 subst he
 refine ⟨_,rfl,aeo (s:=Rows.msgPartsSpec) laidOut (by kernel_rfl) rfl rfl Tryz.underlying4 ?_ hW1 bel⟩
 match ds,hlen with
 | [_,_],_=>rfl
end Go.Proofs.YtohoggieaanllaaGreat.msgParts
