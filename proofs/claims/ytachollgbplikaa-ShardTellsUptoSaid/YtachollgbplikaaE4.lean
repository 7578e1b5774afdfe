import Derived.Test.YtachollgbplikaaE3
import Derived.Test.YtachollgbplikaaXrShardTells
set_option linter.all false
set_option linter.unusedSimpArgs false
namespace Go.Proofs.Ytachollgbplikaa
theorem known8:osmosislaw8_known=some true:=by decide +kernel
theorem sameI_self (x:api_Image) (h1:x.Pairs.length < 1000000) (h2:x.Sess.length < 1000000):oR_SameImage x x=some true:=by
  rw [sameI _ _ h1 h2,dec_t ⟨rfl,rfl,rfl,rfl⟩]
theorem images_alike (s:shard_Shard) (h:OkS s):∃ x,shard_Shard_Image s=some x∧oR_Shard_Image (refOf s)=some x∧oR_SameImage x x=some true:=by
  have h1:(refOf s).T.L.length≤8:=h.1.2
  have h2:(refOf s).S_.L.length≤4:=all_len s.Sessions
  refine ⟨_,image_plain s h,rimage_plain (refOf s) (by omega) (by omega),sameI_self _ ?_ ?_⟩
  · exact Nat.lt_of_le_of_lt h.1.2 (by omega)
  · exact Nat.lt_of_le_of_lt (all_len s.Sessions) (by omega)
theorem osmosislaw8_ShardTells_true (x0:Int) (x1:Int) (x2:List oH_RawOp) (x3:Int) (x4:List oH_RawOp) (o0:okI x0) (o1:okI x1) (o2:(okL ok_oH_RawOp) x2) (o3:okI x3) (o4:(okL ok_oH_RawOp) x4) (hb:bk1 x0+bk1 x1+(bkL bk_oH_RawOp) x2+bk1 x3+(bkL bk_oH_RawOp) x4≤1048576):osmosislaw8_ShardTells x0 x1 x2 x3 x4=some true:=by
  have h4:x4.length≤1048576:=by have:=bkL_len (bk:=bk_oH_RawOp) (fun x=>by unfold bk_oH_RawOp; omega) x4; omega
  obtain ⟨y,y1,y2,y3⟩:=image_some x0 x1 x2 x3
  obtain ⟨z,z1,z2,z3⟩:=image_some x0 x1 x2 0
  obtain ⟨b,b1,b2⟩:=right_alike y (by omega) (by omega)
  obtain ⟨s,s1,s2,_,_,_,s3⟩:=of_shard z (by omega) (by omega)
  unfold osmosislaw8_ShardTells
  rw [y1,Option.bind_some,b1,Option.bind_some,b2,Option.bind_some]
  simp only [beq_self_eq_true,Bool.not_true,cond_false]
  rw [z1,Option.bind_some,s1,Option.bind_some,s3,Option.bind_some]
  have loop:∃ e,osmosislaw8_ShardTells_L0 x4 (0,s,refOf s)=some e∧∃ t,OkS t∧e=.inr (t,refOf t):=by
    refine loopX_inv (fun (s:Int × shard_Shard × oR_Shard)=>x4.length - s.1.toNat) (fun s=>∃ (i:Nat) (t:shard_Shard),s=((i:Int),t,refOf t)∧i≤x4.length∧OkS t) _ ?_ KK _ ⟨0,s,rfl,by omega,s2⟩ (by have:=KK_big; simp only; omega)
    rintro _ ⟨i,t,rfl,g1,g2⟩
    simp only [osmosislaw8_ShardTells_L0_s]
    by_cases c:i < x4.length
    case neg =>
      right
      rw [dec_f (by omega),cond_false]
      exact ⟨_,rfl,t,g2,rfl⟩
    left
    obtain ⟨r,hr⟩:=req_some x4[i]
    obtain ⟨a,fr,t',t1,t2,t3⟩:=ask_alike r t g2
    obtain ⟨m,m1,m2,m3⟩:=images_alike t' t2
    rw [dec_t (by omega),cond_true,getI_at c,Option.bind_some,hr,Option.bind_some,t1,Option.bind_some,t3,Option.bind_some]
    simp only [beq_self_eq_true,Bool.and_true,Bool.not_true]
    rw [cond_false,cond_false]
    have w:shard_Shard_Weight t'=some (IntKind.i64.wrap ((t'.Table.l.length:Int)+1)):=rfl
    have w':oR_Shard_Weight (refOf t')=some (IntKind.i64.wrap (1+(t'.Table.l.length:Int))):=rfl
    rw [w,w',Option.bind_some,Option.bind_some,bne_f (by rw [Int.add_comm]),cond_false,m1,Option.bind_some,m2,Option.bind_some,m3,Option.bind_some]
    simp only [Bool.not_true]
    rw [cond_false,wrap_id (by omega) (by omega),succ_cast]
    exact ⟨_,rfl,⟨i+1,t',rfl,by omega,t2⟩,by simp only; omega⟩
  obtain ⟨e,e1,t,t1,rfl⟩:=loop
  obtain ⟨m,m1,m2,m3⟩:=images_alike t t1
  rw [e1,Option.bind_some,known8,Option.bind_some]
  simp only [isL,cond_false,cond_true,getR]
  show (shard_Shard_Image t).bind _=_
  rw [m1,Option.bind_some]
  show (oR_Shard_Image (refOf t)).bind _=_
  rw [m2,Option.bind_some,m3]
  rfl
end Go.Proofs.Ytachollgbplikaa
