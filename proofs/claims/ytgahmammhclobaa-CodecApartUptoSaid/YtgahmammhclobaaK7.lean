import Derived.Test.YtgahmammhclobaaK5
import Derived.Test.YtgahmammhclobaaG3
import Derived.Test.YtgahmammhclobaaXrCodecApart
set_option linter.all false
set_option linter.unusedSimpArgs false
set_option maxRecDepth 100000
namespace Go.Proofs.Ytgahmammhclobaa
theorem known9:osmosislaw9_known=some true:=by decide +kernel
theorem rightQ_of {r:api_Req} (h:rightR r):rightQ r=true:=by
  unfold rightQ
  rw [dec_t h,Bool.or_true]
theorem rightJ_of {x:api_Image} (h:RightI x):rightJ x=true:=by
  unfold rightJ
  rw [dec_t h,Bool.or_true]
theorem Lays.eq {α:Type} {p:Pr α} {x y:α} {e f:List UInt8} (h:Lays p x e) (g:Lays p y f) (q:e=f):x=y:=(h.inj g (r:=[]) (s:=[]) (by simpa using q)).1
theorem begins_no {α:Type} {p:Pr α} {x y:α} {e f:List UInt8} (h:Lays p x e) (g:Lays p y f) (q:e≠f) (hl:f.length < 1000000000):osmosislaw9_begins e f=some false:=by
  unfold osmosislaw9_begins
  by_cases c:(e.length:Int) ≥ (f.length:Int)
  · rw [dec_t c,cond_true,slI_to e f.length (by omega),Option.bind_some]
    congr 1
    rw [beq_eq_false_iff_ne]
    intro k
    refine q ?_
    have:=h.inj g (r:=[]) (s:=e.drop f.length) (by rw [List.append_nil,← k,List.length_take,Nat.min_eq_left (by omega),List.take_append_drop])
    have h2:=this.2
    have:e.length≤f.length:=by
      have:=congrArg List.length h2
      simp at this
      omega
    rw [← k,List.take_of_length_le this]
  · rw [dec_f c]; rfl
instance:DecidableEq api_Image:=fun x y=>decidable_of_iff (x.Shard=y.Shard∧x.Epoch=y.Epoch∧x.Pairs=y.Pairs∧x.Sess=y.Sess) (by obtain ⟨a,b,c,d⟩:=x; obtain ⟨a',b',c',d'⟩:=y; simp)
theorem imgs (x y:api_Image):decide (x.Shard=y.Shard∧x.Epoch=y.Epoch∧x.Pairs=y.Pairs∧x.Sess=y.Sess)=decide (x=y):=by
  rw [decide_eq_decide]
  obtain ⟨a,b,c,d⟩:=x; obtain ⟨a',b',c',d'⟩:=y
  simp
theorem osmosislaw9_CodecApart_true (x0:oH_RawOp) (x1:oH_RawOp) (x2:Int) (x3:Int) (x4:List oH_RawOp) (x5:List oH_RawOp) (o0:ok_oH_RawOp x0) (o1:ok_oH_RawOp x1) (o2:okI x2) (o3:okI x3) (o4:(okL ok_oH_RawOp) x4) (o5:(okL ok_oH_RawOp) x5) (hb:bk_oH_RawOp x0+bk_oH_RawOp x1+bk1 x2+bk1 x3+(bkL bk_oH_RawOp) x4+(bkL bk_oH_RawOp) x5≤1048576):osmosislaw9_CodecApart x0 x1 x2 x3 x4 x5=some true:=by
  obtain ⟨p,p1,p2⟩:=req_right ⟨x0.Kind,x0.Key,x0.Value,x0.Old,x0.Client,x0.Seq,0,x0.Text⟩ rfl
  obtain ⟨q,q1,q2⟩:=req_right ⟨x1.Kind,x1.Key,x1.Value,x1.Old,x1.Client,x1.Seq,0,x1.Text⟩ rfl
  obtain ⟨u,u1,u2,u3,u4⟩:=image_right x2 1 x4
  obtain ⟨v,v1,v2,v3,v4⟩:=image_right x3 1 x5
  have hp:=rightQ_of p2
  have hq:=rightQ_of q2
  have hu:=rightJ_of u2
  have hv:=rightJ_of v2
  have wp:=req_lays hp
  have wq:=req_lays hq
  have wu:=img_lays hu
  have wv:=img_lays hv
  have lp:=eReq_len hp
  have lq:=eReq_len hq
  have lu:=(eImg_parts hu).2.2
  have lv:=(eImg_parts hv).2.2
  have r1:codec_LayReq [] p=some (eReq p):=by rw [layReq_plain [] p (by simp),hp]; rfl
  have r2:codec_LayReq [] q=some (eReq q):=by rw [layReq_plain [] q (by simp),hq]; rfl
  have r3:codec_LayImage [] u=some (eImg u):=by rw [layImage_plain _ u (by simp) (by omega) (by omega),hu]; rfl
  have r4:codec_LayImage [] v=some (eImg v):=by rw [layImage_plain _ v (by simp) (by omega) (by omega),hv]; rfl
  have a1:(eReq p == eReq q)=decide (p=q):=by
    rw [lbeq_eq,decide_eq_decide]
    exact ⟨fun e=>wp.eq wq e,fun e=>by rw [e]⟩
  have a2:(eImg u == eImg v)=decide (u=v):=by
    rw [lbeq_eq,decide_eq_decide]
    exact ⟨fun e=>wu.eq wv e,fun e=>by rw [e]⟩
  have s1:=sameI u v (by omega) (by omega)
  rw [imgs] at s1
  have g1:codec_RightReq p=some true:=by rw [rightReq_plain,hp]
  have g2:codec_RightImage u=some true:=by rw [rightImage_plain u (by omega) (by omega),hu]
  have g3:codec_RightAnswer ⟨0,[]⟩=some true:=by rw [rightAns_plain]; rfl
  unfold osmosislaw9_CodecApart
  rw [p1,Option.bind_some,q1,Option.bind_some,r1,Option.bind_some,r2,Option.bind_some,u1,Option.bind_some,v1,Option.bind_some,r3,Option.bind_some,r4,Option.bind_some,known9,Option.bind_some,cond_true,a1,a2,s1,g1,g2,g3,req_beq p q]
  simp only [Option.bind_some,beq_self_eq_true,cond_true]
  by_cases c1:p=q
  · rw [dec_t c1]
    simp only [cond_true]
    by_cases c2:u=v
    · rw [dec_t c2]; rfl
    · have n2:eImg u≠eImg v:=fun e=>c2 (wu.eq wv e)
      rw [dec_f c2,begins_no wu wv n2 (by omega),begins_no wv wu (fun e=>n2 e.symm) (by omega)]
      rfl
  · have n1:eReq p≠eReq q:=fun e=>c1 (wp.eq wq e)
    rw [dec_f c1,begins_no wp wq n1 (by omega),begins_no wq wp (fun e=>n1 e.symm) (by omega)]
    simp only [cond_false,Option.bind_some,Bool.not_false,cond_true]
    by_cases c2:u=v
    · rw [dec_t c2]; rfl
    · have n2:eImg u≠eImg v:=fun e=>c2 (wu.eq wv e)
      rw [dec_f c2,begins_no wu wv n2 (by omega),begins_no wv wu (fun e=>n2 e.symm) (by omega)]
      rfl
end Go.Proofs.Ytgahmammhclobaa
