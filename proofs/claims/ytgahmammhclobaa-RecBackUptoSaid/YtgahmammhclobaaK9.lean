import Derived.Test.YtgahmammhclobaaK8
import Derived.Test.YtgahmammhclobaaG4
import Derived.Test.YtgahmammhclobaaXrRecBack
set_option linter.all false
set_option linter.unusedSimpArgs false
set_option maxRecDepth 100000
namespace Go.Proofs.Ytgahmammhclobaa
theorem known11:osmosislaw11_known=some true:=by decide +kernel
theorem rec1_some (x1:Int) (a:oH_RawRec) (x2:Int):∃ t,oH_Rec_J1 x1 a x2 5=some t∧t.2.2.2.2.2.2.2.2.2.2.2.2.1.length≤9∧t.2.2.2.2.2.2.2.2.2.2.2.2.2.length≤9:=by
  obtain ⟨y1,h1⟩:=pick_any a.N 9 (by omega) (by omega)
  obtain ⟨y2,h2⟩:=pick_any a.N 2 (by omega) (by omega)
  obtain ⟨y3,h3⟩:=pick_any a.Epoch 6 (by omega) (by omega)
  obtain ⟨y4,h4⟩:=pick_any a.Host 5 (by omega) (by omega)
  obtain ⟨q,hq⟩:=req_some ⟨a.Op.Kind,a.Op.Key,a.Op.Value,a.Op.Old,a.Op.Client,a.Op.Seq,0,a.Op.Text⟩
  obtain ⟨i,hi,i1,i2⟩:=image2_some x2 a.Epoch a.Ops 0
  have h1:oH_Pick a.N 9=some y1:=h1
  have h2:oH_Pick a.N 2=some y2:=h2
  have h3:oH_Pick a.Epoch 6=some y3:=h3
  have h4:oH_Pick a.Host 5=some y4:=h4
  unfold oH_Rec_J1 oH_Rec_J0
  simp only [h1,h2,h3,h4,hq,hi,Option.bind_some]
  cases (IntKind.i64.wrap (1+x1) == 1)
  case true=>exact ⟨_,rfl,by simp,by simp⟩
  cases (IntKind.i64.wrap (1+x1) == 2)
  case true=>exact ⟨_,rfl,by simp,by simp⟩
  cases (IntKind.i64.wrap (1+x1) == 3)
  case true=>exact ⟨_,rfl,by simp,by simp⟩
  cases (IntKind.i64.wrap (1+x1) == 4)
  case true=>exact ⟨_,rfl,by simp,by simp⟩
  cases (IntKind.i64.wrap (1+x1) == 6)
  case true=>exact ⟨_,rfl,by simp,by simp⟩
  cases (IntKind.i64.wrap (1+x1) == 5)
  case true=>exact ⟨_,rfl,i1,i2⟩
  exact ⟨_,rfl,by simp,by simp⟩
theorem rec_some (a:oH_RawRec):∃ x,oH_Rec a 5=some x∧small x.Image:=by
  obtain ⟨x1,h1⟩:=pick_any a.Kind 6 (by omega) (by omega)
  obtain ⟨x2,h2⟩:=pick_any a.Shard 6 (by omega) (by omega)
  obtain ⟨x3,h3⟩:=pick_any a.Bend 14 (by omega) (by omega)
  obtain ⟨x4,h4⟩:=pick_any a.Kind 10 (by omega) (by omega)
  obtain ⟨x5,h5⟩:=num_some a.N
  obtain ⟨x6,h6⟩:=num_some a.Shard
  obtain ⟨x7,h7⟩:=req_some a.Op
  obtain ⟨x8,h8,i1,i2⟩:=image_some x2 a.Epoch a.Ops (IntKind.i64.wrap (Int.tdiv a.Bend 14))
  have h1:oH_Pick a.Kind 6=some x1:=h1
  have h2:oH_Pick a.Shard 6=some x2:=h2
  have h3:oH_Pick a.Bend 14=some x3:=h3
  have h4:oH_Pick a.Kind 10=some x4:=h4
  obtain ⟨t,ht,t1,t2⟩:=rec1_some x1 a x2
  unfold oH_Rec
  simp only [h1,h2,h3,h4,h5,h6,h7,h8,ht,Option.bind_some]
  have st:t.2.2.2.2.2.2.2.2.2.2.2.2.1.length < 1000000∧t.2.2.2.2.2.2.2.2.2.2.2.2.2.length < 1000000:=⟨by omega,by omega⟩
  cases (x3 == 9)
  case true=>exact ⟨_,rfl,st⟩
  cases (x3 == 10)
  case true=>exact ⟨_,rfl,st⟩
  cases (x3 == 11)
  case true=>exact ⟨_,rfl,st⟩
  cases (x3 == 12)
  case true=>exact ⟨_,rfl,st⟩
  cases (x3 == 13)
  case true=>exact ⟨_,rfl,show x8.Pairs.length < 1000000∧x8.Sess.length < 1000000 from ⟨by omega,by omega⟩⟩
  exact ⟨_,rfl,st⟩
theorem eRec_pos (r:api_Rec):0 < (eRec r).length:=by
  have:=encN_pos r.Kind.toNat
  unfold eRec headR
  simp only [List.flatMap_cons,List.length_append,eN]
  omega
theorem max1 (n:Nat) (h:0 < n):(if (n:Int) > 1 then (n:Int) else 1)=(n:Int):=by
  split <;> omega
theorem osmosislaw11_RecBack_true (x0:oH_RawRec) (x1:oH_RawRec) (x2:Int) (o0:ok_oH_RawRec x0) (o1:ok_oH_RawRec x1) (o2:okI x2) (hb:bk_oH_RawRec x0+bk_oH_RawRec x1+bk1 x2≤1048576):osmosislaw11_RecBack x0 x1 x2=some true:=by
  obtain ⟨x,hx,sx⟩:=rec_some x0
  obtain ⟨y,hy,sy⟩:=rec_some x1
  unfold osmosislaw11_RecBack
  rw [hx,Option.bind_some,hy,Option.bind_some,lay_rec x sx,Option.bind_some,lay_rec y sy,Option.bind_some,right_rec x sx,Option.bind_some]
  cases rx:rightC x
  case false =>
    simp only [Bool.false_eq_true,if_false,Bool.not_false,cond_true]
    rw [known11]
    rfl
  simp only [if_true,Bool.not_true,cond_false]
  have lx:=eRec_len rx
  have px:=eRec_pos x
  obtain ⟨k,k1,k2⟩:=pick_nat x2 (eRec x).length px (by omega)
  rw [read_rec _ (by omega),read_laid rx,Option.bind_some,max1 _ px,k1,Option.bind_some,slI_to _ _ (by omega),Option.bind_some,read_rec _ (by rw [List.length_take]; omega),read_cut rx k k2,Option.bind_some,known11,Option.bind_some,cond_true]
  simp only
  rw [rsame_plain x x sx,Option.bind_some,right_rec y sy,Option.bind_some,rsame_plain x y sx,Option.bind_some]
  simp only [decide_true,cond_true,beq_self_eq_true]
  cases ry:rightC y
  · rfl
  simp only [if_true,Bool.not_true,cond_false]
  have:(eRec x == eRec y)=decide (x=y):=by
    rw [lbeq_eq,decide_eq_decide]
    exact ⟨fun e=>((rec_lays rx).inj (rec_lays ry) (r:=[]) (s:=[]) (by simpa using e)).1,fun e=>by rw [e]⟩
  rw [this,beq_self_eq_true]
end Go.Proofs.Ytgahmammhclobaa
