import Derived.Test.YtohoggieaanllaaGreatJ5
import Derived.Test.YtohoggieaanllaaGreatRows
import Derived.Test.YtohoggieaanllaaGreatPuNetOrder
import Derived.Test.YtohoggieaanllaaGreatLkNetOrder
set_option linter.all false
set_option linter.unusedSimpArgs false
namespace Go.Proofs.YtohoggieaanllaaGreat.netOrder
open Go.ChangeShapes Go.WideShapes Go.ChangeAt Go.RowKit
mutual
theorem auM {H:Type}:∀ d:DataW H,(Fq d).bulk≤Rows.uptoBulk d
 | .lit (.string b)=>by simp [Fq,D.bulk,Rows.uptoBulk]
 | .lit (.bool b)=>by simp [Fq,D.bulk,Rows.uptoBulk]
 | .lit (.int k b)=>by simp [Fq,D.bulk,Rows.uptoBulk]
 | .lit (.float k b)=>by simp [Fq,D.bulk]
 | .lit .nil=>by simp [Fq,D.bulk]
 | .nil=>by simp [Fq,D.bulk,D.Br,Rows.uptoBulk]
 | .slice es sp=>by
  have:=UJ es
  simp only [Fq,D.bulk,Rows.uptoBulk]
  omega
 | .agg es=>by
  have:=UJ es
  simp only [Fq,D.bulk,Rows.uptoBulk]
  omega
 | .ptr d=>by simp [Fq,D.bulk]
 | .iface n d=>by simp [Fq,D.bulk]
 | .map es=>by simp [Fq,D.bulk]
 | .held h=>by simp [Fq,D.bulk]
theorem UJ {H:Type}:∀ l:List (DataW H),D.Br (U0 l)≤Rows.uptoBulkAll l
 | []=>by simp [U0,D.Br]
 | d::r=>by
  have h1:=auM d
  have h2:=UJ r
  simp only [U0,D.Br,Rows.uptoBulkAll]
  omega
end
set_option maxRecDepth 100000 in
theorem lifted (os:Os) (started:os.Started) (H:Type) (enc:TypeId×Value→H) (F0:Stop.Interp) :
  ReturnsInHanded {} Tryz.checked os 5 .any ((Rows.OpenSpec.upto Rows.netOrderSpec).pre6 enc Tryz.prog Tryz.f5 Rows.netOrderUptoRow.domain false) (((Rows.OpenSpec.upto Rows.netOrderSpec).at F0).post enc Tryz.prog Tryz.f5 false true false false):=by
 refine returnsInHanded_of_cond_sized (C:=Tryz.checked) (s:=Rows.OpenSpec.upto Rows.netOrderSpec) (k:=Rows.uptoSmall) rfl ay5 started (by kernel_rfl) Tryz.func5
  (OpenSpec.witness (enc:=enc) (C:=Tryz.checked) (s:=Rows.OpenSpec.upto Rows.netOrderSpec) (k:=Rows.uptoSmall) rfl false ⟨#[],#[.slice none 0 0,.int .i64 0,.int .i64 0],[]⟩ 8 (by kernel_rfl) (by kernel_rfl) (by kernel_rfl)
   (x:=([.nil,.lit (.int .i64 0),.lit (.int .i64 0)],[],[])) (by kernel_rfl) (by kernel_rfl) (by kernel_rfl)) ?_
 intro W base args ds gs before hval0 hW _ hk _ _
 have hval:∀ (j:Nat) t v,Tryz.f5.params.toList[j]?=some t→args.toList[j]?=some v→Value.okWide Tryz.prog W .any base t v:=λj t v h1 h2=>hval0 j t v (by rw [← Array.getElem?_toList];exact h1) (by rw [← Array.getElem?_toList];exact h2)
 have hW1:DataW.Whole enc Tryz.prog Tryz.f5.params.toList Rows.netOrderSpec.vars false W args.toList ds gs before:=hW
 have hW':=hW1
 obtain ⟨p,q,hA,hV,_,_,_⟩:=hW'
 have hgs:gs=[]:=by
  cases gs with
  | nil=>rfl
  | cons _ _=>simp [DataW.TrodVars,Rows.netOrderSpec] at hV
 have hlen:ds.length=3:=by
  have hA1:=hA
  rw [Tryz.params5] at hA1
  obtain ⟨v0,vs0,d0,ds0,p0,q0,_,rfl,_,_,r0⟩:=trodAll_cons hA1;obtain ⟨v1,vs1,d1,ds1,p1,q1,_,rfl,_,_,r1⟩:=trodAll_cons r0;obtain ⟨v2,vs2,d2,ds2,p2,q2,_,rfl,_,_,r2⟩:=trodAll_cons r1;
  obtain ⟨_,rfl,_⟩:=trodAll_nil r2
  rfl
 have hb:D.Br (ds.map Fq)≤1048576:=by
  have h1:Rows.uptoBulkAll (ds++gs)≤1048576:=of_decide_eq_true hk
  rw [hgs,List.append_nil] at h1
  have h2:=UJ ds
  rw [KI] at h2
  omega
 refine (afF (P:=Tryz.prog) (k:=10) laidOut (acg (G:=wG) (T:=aqc) awE (λ_ _ h=>auu h) KK 16 (f:=5) rfl) pure (ts:=Tryz.f5.params.toList) (by kernel_rfl) (by kernel_rfl) hval hA hb).mono λe W' ⟨he,bel⟩=>?_
 subst he
 refine ⟨_,rfl,amC (s:=Rows.netOrderSpec) laidOut (by kernel_rfl) rfl rfl Tryz.underlying4 ?_ hW1 bel⟩
 match ds,hlen with
 | [_,_,_],_=>rfl
end Go.Proofs.YtohoggieaanllaaGreat.netOrder
