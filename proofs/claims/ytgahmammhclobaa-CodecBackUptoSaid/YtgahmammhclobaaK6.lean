import Derived.Test.YtgahmammhclobaaK5
import Derived.Test.YtgahmammhclobaaG3
import Derived.Test.YtgahmammhclobaaXrCodecBack
set_option linter.all false
set_option linter.unusedSimpArgs false
set_option maxRecDepth 100000
namespace Go.Proofs.Ytgahmammhclobaa
theorem known9:osmosislaw9_known=some true:=by decide +kernel
theorem sameI_self (x:api_Image) (h1:x.Pairs.length < 1000000) (h2:x.Sess.length < 1000000):oR_SameImage x x=some true:=by
  rw [sameI _ _ h1 h2,dec_t ⟨rfl,rfl,rfl,rfl⟩]
theorem rightQ_of {r:api_Req} (h:rightR r):rightQ r=true:=by
  unfold rightQ
  rw [dec_t h,Bool.or_true]
theorem rightJ_of {x:api_Image} (h:RightI x):rightJ x=true:=by
  unfold rightJ
  rw [dec_t h,Bool.or_true]
theorem eImg_pos (x:api_Image):0 < (eImg x).length:=by
  have:=encN_pos x.Shard.toNat
  unfold eImg
  simp only [List.flatMap_cons,List.length_append,eN]
  omega
theorem few_all (b:List UInt8) (h:b.length < 1000000000):oH_Few_2 b (b.length:Int)=some b:=by
  unfold oH_Few_2
  rw [dec_f (by omega),cond_false,gd_fits1 (by omega)]
theorem max1 (n:Nat) (h:0 < n):(if (n:Int) > 1 then (n:Int) else 1)=(n:Int):=by
  split <;> omega
theorem osmosislaw9_CodecBack_true (x0:oH_RawOp) (x1:Int) (x2:Int) (x3:List oH_RawOp) (x4:List UInt8) (x5:Int) (o0:ok_oH_RawOp x0) (o1:okI x1) (o2:okI x2) (o3:(okL ok_oH_RawOp) x3) (o4:(okL okT) x4) (o5:okI x5) (hb:bk_oH_RawOp x0+bk1 x1+bk1 x2+(bkL bk_oH_RawOp) x3+(bkL bk1) x4+bk1 x5≤1048576):osmosislaw9_CodecBack x0 x1 x2 x3 x4 x5=some true:=by
  have h4:x4.length≤1048576:=by have:=bkL_len (bk:=bk1 (α:=UInt8)) (fun x=>by unfold bk1; omega) x4; omega
  obtain ⟨q,q1,q2⟩:=req_right ⟨x0.Kind,x0.Key,x0.Value,x0.Old,x0.Client,x0.Seq,0,x0.Text⟩ rfl
  obtain ⟨y,y1,y2,y3,y4⟩:=image_right x1 x2 x3
  have hq:=rightQ_of q2
  have hy:=rightJ_of y2
  have lq:=eReq_len hq
  have ly:=(eImg_parts hy).2.2
  have py:=eImg_pos y
  have wq:=req_lays hq
  have wy:=img_lays hy
  have r1:codec_LayReq [] q=some (eReq q):=by rw [layReq_plain [] q (by simp),hq]; rfl
  have r2:codec_LayImage (eReq q) y=some (eReq q ++ eImg y):=by rw [layImage_plain _ y (by omega) (by omega) (by omega),hy]; rfl
  have r3:codec_LayImage [] y=some (eImg y):=by rw [layImage_plain _ y (by simp) (by omega) (by omega),hy]; rfl
  have lb:(eReq q ++ eImg y).length≤1000:=by rw [List.length_append]; omega
  have r4:codec_ReadReq ((eReq q ++ eImg y) ++ x4)=some (q,eImg y ++ x4,0):=by
    rw [readReq_plain _ (by rw [List.length_append]; omega),List.append_assoc,wq.1]
  have r5:codec_ReadImage (eImg y ++ x4)=some (y,x4,0):=by
    rw [readImage_plain _ (by rw [List.length_append]; omega),wy.1]
  obtain ⟨k,k1,k2⟩:=pick_nat x5 (eImg y).length py (by omega)
  have r6:codec_ReadImage ((eImg y).take k)=some (zeroM,[],3):=by
    rw [readImage_plain _ (by rw [List.length_take]; omega),wy.2 k k2]
  unfold osmosislaw9_CodecBack
  rw [q1,Option.bind_some,y1,Option.bind_some,r1,Option.bind_some,r2,Option.bind_some,few_all _ (by omega),Option.bind_some,gd_fits1 (by rw [List.length_append]; omega),r4,Option.bind_some]
  simp only
  rw [r5,Option.bind_some,r3,Option.bind_some]
  have j0:osmosislaw9_CodecBack_J0 (eImg y) (eReq q ++ eImg y) x4 x5 (q,eImg y ++ x4,0) (y,x4,0) q y=some (.inr ()):=by
    unfold osmosislaw9_CodecBack_J0
    rw [known9,Option.bind_some,dec_f (by rw [List.length_append]; omega)]
    rfl
  rw [j0,Option.bind_some,max1 _ py]
  simp only [isL,cond_false]
  rw [k1,Option.bind_some,List.length_append,wrap_id (by omega) (by omega),show (((eReq q).length+(eImg y).length:Nat):Int) - ((eImg y).length:Int)=((eReq q).length:Int) by omega,← List.length_append,slI_from _ _ (by rw [List.length_append]; omega),Option.bind_some,List.drop_left,slI_to _ _ (by omega),Option.bind_some,r6,Option.bind_some,known9,Option.bind_some,cond_true,sameI_self y (by omega) (by omega)]
  simp
end Go.Proofs.Ytgahmammhclobaa
