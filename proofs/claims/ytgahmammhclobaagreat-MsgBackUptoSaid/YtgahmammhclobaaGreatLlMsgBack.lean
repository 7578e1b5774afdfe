import Derived.Test.YtgahmammhclobaaGreatJ5
import Derived.Test.YtgahmammhclobaaGreatRows
import Derived.Test.YtgahmammhclobaaGreatPuMsgBack
import Derived.Test.YtgahmammhclobaaGreatLkMsgBack
set_option linter.all false
set_option linter.unusedSimpArgs false
namespace Go.Proofs.YtgahmammhclobaaGreat.msgBack
open Go.ChangeShapes Go.WideShapes Go.ChangeAt Go.RowKit
mutual
theorem bulk_le {H:Type}:∀ d:DataW H,(toD d).bulk≤Rows.uptoBulk d
 | .lit (.string b)=>by simp [toD,D.bulk,Rows.uptoBulk]
 | .lit (.bool b)=>by simp [toD,D.bulk,Rows.uptoBulk]
 | .lit (.int k b)=>by simp [toD,D.bulk,Rows.uptoBulk]
 | .lit (.float k b)=>by simp [toD,D.bulk]
 | .lit .nil=>by simp [toD,D.bulk]
 | .nil=>by simp [toD,D.bulk,D.bulks,Rows.uptoBulk]
 | .slice es sp=>by
  have:=bulks_le es
  simp only [toD,D.bulk,Rows.uptoBulk]
  omega
 | .agg es=>by
  have:=bulks_le es
  simp only [toD,D.bulk,Rows.uptoBulk]
  omega
 | .ptr d=>by simp [toD,D.bulk]
 | .iface n d=>by simp [toD,D.bulk]
 | .map es=>by simp [toD,D.bulk]
 | .held h=>by simp [toD,D.bulk]
theorem bulks_le {H:Type}:∀ l:List (DataW H),D.bulks (toDs l)≤Rows.uptoBulkAll l
 | []=>by simp [toDs,D.bulks]
 | d :: r=>by
  have h1:=bulk_le d
  have h2:=bulks_le r
  simp only [toDs,D.bulks,Rows.uptoBulkAll]
  omega
end
set_option maxRecDepth 100000 in
theorem lifted (os:Os) (started:os.Started) (H:Type) (enc:TypeId × Value→H) (F0:Stop.Interp) :
  ReturnsInHanded {} Tryz.checked os 6 .any ((Rows.OpenSpec.upto Rows.msgBackSpec).pre6 enc Tryz.prog Tryz.f6 Rows.msgBackUptoRow.domain false) (((Rows.OpenSpec.upto Rows.msgBackSpec).at F0).post enc Tryz.prog Tryz.f6 false true false false):=by
 refine returnsInHanded_of_cond_sized (C:=Tryz.checked) (s:=Rows.OpenSpec.upto Rows.msgBackSpec) (k:=Rows.uptoSmall) rfl ownK started (by kernel_rfl) Tryz.func6
  (OpenSpec.witness (enc:=enc) (C:=Tryz.checked) (s:=Rows.OpenSpec.upto Rows.msgBackSpec) (k:=Rows.uptoSmall) rfl false ⟨#[],#[.agg #[.int .i64 0,.int .i64 0,.int .i64 0,.int .i64 0,.int .i64 0,.int .i64 0,.int .i64 0,.int .i64 0,.int .i64 0,.int .i64 0,.bool false,.int .i64 0,.int .i64 0,.int .i64 0,.int .i64 0,.int .i64 0,.int .i64 0,.int .i64 0,.string ByteArray.empty,.slice none 0 0,.slice none 0 0,.slice none 0 0],.agg #[.int .i64 0,.int .i64 0,.int .i64 0,.int .i64 0,.int .i64 0,.int .i64 0,.int .i64 0,.int .i64 0,.int .i64 0,.int .i64 0,.bool false,.int .i64 0,.int .i64 0,.int .i64 0,.int .i64 0,.int .i64 0,.int .i64 0,.int .i64 0,.string ByteArray.empty,.slice none 0 0,.slice none 0 0,.slice none 0 0],.int .i64 0],[]⟩ 8 (by kernel_rfl) (by kernel_rfl) (by kernel_rfl)
   (x:=([.agg [.lit (.int .i64 0),.lit (.int .i64 0),.lit (.int .i64 0),.lit (.int .i64 0),.lit (.int .i64 0),.lit (.int .i64 0),.lit (.int .i64 0),.lit (.int .i64 0),.lit (.int .i64 0),.lit (.int .i64 0),.lit (.bool false),.agg [.lit (.int .i64 0),.lit (.int .i64 0),.lit (.int .i64 0),.lit (.int .i64 0),.lit (.int .i64 0),.lit (.int .i64 0),.lit (.int .i64 0),.lit (.string [])],.nil,.nil,.nil],.agg [.lit (.int .i64 0),.lit (.int .i64 0),.lit (.int .i64 0),.lit (.int .i64 0),.lit (.int .i64 0),.lit (.int .i64 0),.lit (.int .i64 0),.lit (.int .i64 0),.lit (.int .i64 0),.lit (.int .i64 0),.lit (.bool false),.agg [.lit (.int .i64 0),.lit (.int .i64 0),.lit (.int .i64 0),.lit (.int .i64 0),.lit (.int .i64 0),.lit (.int .i64 0),.lit (.int .i64 0),.lit (.string [])],.nil,.nil,.nil],.lit (.int .i64 0)],[],[])) (by kernel_rfl) (by kernel_rfl) (by kernel_rfl)) ?_
 intro W base args ds gs before hval0 hW _ hk _ _
 have hval:∀ (j:Nat) t v,Tryz.f6.params.toList[j]?=some t→args.toList[j]?=some v→Value.okWide Tryz.prog W .any base t v:=fun j t v h1 h2=>hval0 j t v (by rw [← Array.getElem?_toList]; exact h1) (by rw [← Array.getElem?_toList]; exact h2)
 have hW1:DataW.Whole enc Tryz.prog Tryz.f6.params.toList Rows.msgBackSpec.vars false W args.toList ds gs before:=hW
 have hW':=hW1
 obtain ⟨p,q,hA,hV,_,_,_⟩:=hW'
 have hgs:gs=[]:=by
  cases gs with
  | nil=>rfl
  | cons _ _=>simp [DataW.TrodVars,Rows.msgBackSpec] at hV
 have hlen:ds.length=3:=by
  have hA1:=hA
  rw [Tryz.params6] at hA1
  obtain ⟨v0,vs0,d0,ds0,p0,q0,_,rfl,_,_,r0⟩:=trodAll_cons hA1; obtain ⟨v1,vs1,d1,ds1,p1,q1,_,rfl,_,_,r1⟩:=trodAll_cons r0; obtain ⟨v2,vs2,d2,ds2,p2,q2,_,rfl,_,_,r2⟩:=trodAll_cons r1;
  obtain ⟨_,rfl,_⟩:=trodAll_nil r2
  rfl
 have hb:D.bulks (ds.map toD)≤1048576:=by
  have h1:Rows.uptoBulkAll (ds ++ gs)≤1048576:=of_decide_eq_true hk
  rw [hgs,List.append_nil] at h1
  have h2:=bulks_le ds
  rw [toDs_eq] at h2
  omega
 refine (open_callsW (P:=Tryz.prog) (k:=10) laidOut (law_sound (G:=wG) (T:=atabT) wG_ok (fun _ _ h=>atab_is h) KK 15 (f:=6) rfl) pure (ts:=Tryz.f6.params.toList) (by kernel_rfl) (by kernel_rfl) hval hA hb).mono fun e W' ⟨he,bel⟩=>?_
 subst he
 refine ⟨_,rfl,law_post (s:=Rows.msgBackSpec) laidOut (by kernel_rfl) rfl rfl Tryz.underlying4 ?_ hW1 bel⟩
 match ds,hlen with
 | [_,_,_],_=>rfl
end Go.Proofs.YtgahmammhclobaaGreat.msgBack
