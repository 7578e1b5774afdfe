import Derived.Test.YtohoggieaanllaaGreatJ5
import Derived.Test.YtohoggieaanllaaGreatRows
import Derived.Test.YtohoggieaanllaaGreatPuMsgTells
import Derived.Test.YtohoggieaanllaaGreatLkMsgTells
set_option linter.all false
set_option linter.unusedSimpArgs false
namespace Go.Proofs.YtohoggieaanllaaGreat.msgTells
open Go.ChangeShapes Go.WideShapes Go.ChangeAt Go.RowKit
mutual
theorem auH {H:Type}:∀ d:DataW H,(F3 d).bulk≤Rows.uptoBulk d
 | .lit (.string b)=>by simp [F3,D.bulk,Rows.uptoBulk]
 | .lit (.bool b)=>by simp [F3,D.bulk,Rows.uptoBulk]
 | .lit (.int k b)=>by simp [F3,D.bulk,Rows.uptoBulk]
 | .lit (.float k b)=>by simp [F3,D.bulk]
 | .lit .nil=>by simp [F3,D.bulk]
 | .nil=>by simp [F3,D.bulk,D.Ch,Rows.uptoBulk]
 | .slice es sp=>by
  have:=Vs es
  simp only [F3,D.bulk,Rows.uptoBulk]
  omega
 | .agg es=>by
  have:=Vs es
  simp only [F3,D.bulk,Rows.uptoBulk]
  omega
 | .ptr d=>by simp [F3,D.bulk]
 | .iface n d=>by simp [F3,D.bulk]
 | .map es=>by simp [F3,D.bulk]
 | .held h=>by simp [F3,D.bulk]
theorem Vs {H:Type}:∀ l:List (DataW H),D.Ch (VF l)≤Rows.uptoBulkAll l
 | []=>by simp [VF,D.Ch]
 | d::r=>by
  have h1:=auH d
  have h2:=Vs r
  simp only [VF,D.Ch,Rows.uptoBulkAll]
  omega
end
set_option maxRecDepth 100000 in
theorem lifted (os:Os) (started:os.Started) (H:Type) (enc:TypeId×Value→H) (F0:Stop.Interp) :
  ReturnsInHanded {} Tryz.checked os 3 .any ((Rows.OpenSpec.upto Rows.msgTellsSpec).pre6 enc Tryz.prog Tryz.f3 Rows.msgTellsUptoRow.domain false) (((Rows.OpenSpec.upto Rows.msgTellsSpec).at F0).post enc Tryz.prog Tryz.f3 false true false false):=by
 refine returnsInHanded_of_cond_sized (C:=Tryz.checked) (s:=Rows.OpenSpec.upto Rows.msgTellsSpec) (k:=Rows.uptoSmall) rfl azw started (by kernel_rfl) Tryz.func3
  (OpenSpec.witness (enc:=enc) (C:=Tryz.checked) (s:=Rows.OpenSpec.upto Rows.msgTellsSpec) (k:=Rows.uptoSmall) rfl false ⟨#[],#[.agg #[.int .i64 0,.int .i64 0,.int .i64 0,.int .i64 0,.int .i64 0,.int .i64 0,.int .i64 0,.int .i64 0,.int .i64 0,.int .i64 0,.bool false,.int .i64 0,.int .i64 0,.int .i64 0,.int .i64 0,.int .i64 0,.int .i64 0,.int .i64 0,.string ByteArray.empty,.slice none 0 0,.slice none 0 0,.slice none 0 0],.agg #[.int .i64 0,.int .i64 0,.int .i64 0,.int .i64 0,.int .i64 0,.int .i64 0,.int .i64 0,.int .i64 0,.int .i64 0,.int .i64 0,.bool false,.int .i64 0,.int .i64 0,.int .i64 0,.int .i64 0,.int .i64 0,.int .i64 0,.int .i64 0,.string ByteArray.empty,.slice none 0 0,.slice none 0 0,.slice none 0 0],.slice none 0 0,.int .i64 0,.int .u8 0,.int .i64 0],[]⟩ 8 (by kernel_rfl) (by kernel_rfl) (by kernel_rfl)
   (x:=([.agg [.lit (.int .i64 0),.lit (.int .i64 0),.lit (.int .i64 0),.lit (.int .i64 0),.lit (.int .i64 0),.lit (.int .i64 0),.lit (.int .i64 0),.lit (.int .i64 0),.lit (.int .i64 0),.lit (.int .i64 0),.lit (.bool false),.agg [.lit (.int .i64 0),.lit (.int .i64 0),.lit (.int .i64 0),.lit (.int .i64 0),.lit (.int .i64 0),.lit (.int .i64 0),.lit (.int .i64 0),.lit (.string [])],.nil,.nil,.nil],.agg [.lit (.int .i64 0),.lit (.int .i64 0),.lit (.int .i64 0),.lit (.int .i64 0),.lit (.int .i64 0),.lit (.int .i64 0),.lit (.int .i64 0),.lit (.int .i64 0),.lit (.int .i64 0),.lit (.int .i64 0),.lit (.bool false),.agg [.lit (.int .i64 0),.lit (.int .i64 0),.lit (.int .i64 0),.lit (.int .i64 0),.lit (.int .i64 0),.lit (.int .i64 0),.lit (.int .i64 0),.lit (.string [])],.nil,.nil,.nil],.nil,.lit (.int .i64 0),.lit (.int .u8 0),.lit (.int .i64 0)],[],[])) (by kernel_rfl) (by kernel_rfl) (by kernel_rfl)) ?_
 intro W base args ds gs before hval0 hW _ hk _ _
 have hval:∀ (j:Nat) t v,Tryz.f3.params.toList[j]?=some t→args.toList[j]?=some v→Value.okWide Tryz.prog W .any base t v:=λj t v h1 h2=>hval0 j t v (by rw [← Array.getElem?_toList];exact h1) (by rw [← Array.getElem?_toList];exact h2)
 have hW1:DataW.Whole enc Tryz.prog Tryz.f3.params.toList Rows.msgTellsSpec.vars false W args.toList ds gs before:=hW
 have hW':=hW1
 obtain ⟨p,q,hA,hV,_,_,_⟩:=hW'
 have hgs:gs=[]:=by
  cases gs with
  | nil=>rfl
  | cons _ _=>simp [DataW.TrodVars,Rows.msgTellsSpec] at hV
 have hlen:ds.length=6:=by
  have hA1:=hA
  rw [Tryz.params3] at hA1
  obtain ⟨v0,vs0,d0,ds0,p0,q0,_,rfl,_,_,r0⟩:=trodAll_cons hA1;obtain ⟨v1,vs1,d1,ds1,p1,q1,_,rfl,_,_,r1⟩:=trodAll_cons r0;obtain ⟨v2,vs2,d2,ds2,p2,q2,_,rfl,_,_,r2⟩:=trodAll_cons r1;obtain ⟨v3,vs3,d3,ds3,p3,q3,_,rfl,_,_,r3⟩:=trodAll_cons r2;obtain ⟨v4,vs4,d4,ds4,p4,q4,_,rfl,_,_,r4⟩:=trodAll_cons r3;obtain ⟨v5,vs5,d5,ds5,p5,q5,_,rfl,_,_,r5⟩:=trodAll_cons r4;
  obtain ⟨_,rfl,_⟩:=trodAll_nil r5
  rfl
 have hb:D.Ch (ds.map F3)≤1048576:=by
  have h1:Rows.uptoBulkAll (ds++gs)≤1048576:=of_decide_eq_true hk
  rw [hgs,List.append_nil] at h1
  have h2:=Vs ds
  rw [Lg] at h2
  omega
 refine (agc (P:=Tryz.prog) (k:=10) laidOut (acW (G:=wG) (T:=aqi) awX (λ_ _ h=>auo h) KK 15 (f:=3) rfl) pure (ts:=Tryz.f3.params.toList) (by kernel_rfl) (by kernel_rfl) hval hA hb).mono λe W' ⟨he,bel⟩=>?_
 subst he
 refine ⟨_,rfl,amL (s:=Rows.msgTellsSpec) laidOut (by kernel_rfl) rfl rfl Tryz.underlying4 ?_ hW1 bel⟩
 match ds,hlen with
 | [_,_,_,_,_,_],_=>rfl
end Go.Proofs.YtohoggieaanllaaGreat.msgTells
