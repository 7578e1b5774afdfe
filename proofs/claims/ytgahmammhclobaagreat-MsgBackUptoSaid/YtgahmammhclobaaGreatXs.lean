import Derived.Test.YtgahmammhclobaaGreatJ5
set_option linter.all false
set_option maxRecDepth 100000
namespace Go.Proofs.YtgahmammhclobaaGreat
structure oH_RawOp where
 Kind:Int
 Key:Int
 Value:Int
 Old:Int
 Client:Int
 Seq:Int
 Bend:Int
 Text:List UInt8
instance:Inhabited oH_RawOp:=⟨⟨0,0,0,0,0,0,0,[]⟩⟩
def e_oH_RawOp (x:oH_RawOp):List AV:=[(.int .i64 x.Kind),(.int .i64 x.Key),(.int .i64 x.Value),(.int .i64 x.Old),(.int .i64 x.Client),(.int .i64 x.Seq),(.int .i64 x.Bend),(.str x.Text)]
theorem n_oH_RawOp (x:oH_RawOp):(e_oH_RawOp x).length=8:=rfl
def F_S (l:List (List UInt8)):List AV:=l.map fun x=>(.str x)
theorem R_S:Row F_S (fun x=>[(.str x)]) 1:=row_map _
def l_S (l:List (List UInt8)):AV:=.list 1 l.length (F_S l) false
structure api_Op where
 Kind:Int
 Key:List UInt8
 Value:List UInt8
 Old:List UInt8
instance:Inhabited api_Op:=⟨⟨0,[],[],[]⟩⟩
def e_api_Op (x:api_Op):List AV:=[(.int .i64 x.Kind),(.str x.Key),(.str x.Value),(.str x.Old)]
structure api_Req where
 Client:Int
 Seq:Int
 Op:api_Op
instance:Inhabited api_Req:=⟨⟨0,0,⟨0,[],[],[]⟩⟩⟩
def e_api_Req (x:api_Req):List AV:=[(.int .i64 x.Client),(.int .i64 x.Seq),(.int .i64 x.Op.Kind),(.str x.Op.Key),(.str x.Op.Value),(.str x.Op.Old)]
structure api_Pair where
 Key:List UInt8
 Value:List UInt8
instance:Inhabited api_Pair:=⟨⟨[],[]⟩⟩
def e_api_Pair (x:api_Pair):List AV:=[(.str x.Key),(.str x.Value)]
theorem n_api_Pair (x:api_Pair):(e_api_Pair x).length=2:=rfl
def F_api_Pair (l:List api_Pair):List AV:=l.flatMap e_api_Pair
theorem R_api_Pair:Row F_api_Pair e_api_Pair 2:=row_flat n_api_Pair
def l_api_Pair (l:List api_Pair):AV:=.list 2 l.length (F_api_Pair l) false
structure api_Answer where
 Why:Int
 Value:List UInt8
instance:Inhabited api_Answer:=⟨⟨0,[]⟩⟩
def e_api_Answer (x:api_Answer):List AV:=[(.int .i64 x.Why),(.str x.Value)]
structure api_Sess where
 Client:Int
 Seq:Int
 Answer:api_Answer
instance:Inhabited api_Sess:=⟨⟨0,0,⟨0,[]⟩⟩⟩
def e_api_Sess (x:api_Sess):List AV:=[(.int .i64 x.Client),(.int .i64 x.Seq),(.int .i64 x.Answer.Why),(.str x.Answer.Value)]
theorem n_api_Sess (x:api_Sess):(e_api_Sess x).length=4:=rfl
def F_api_Sess (l:List api_Sess):List AV:=l.flatMap e_api_Sess
theorem R_api_Sess:Row F_api_Sess e_api_Sess 4:=row_flat n_api_Sess
def l_api_Sess (l:List api_Sess):AV:=.list 4 l.length (F_api_Sess l) false
structure api_Image where
 Shard:Int
 Epoch:Int
 Pairs:List api_Pair
 Sess:List api_Sess
instance:Inhabited api_Image:=⟨⟨0,0,[],[]⟩⟩
def e_api_Image (x:api_Image):List AV:=[(.int .i64 x.Shard),(.int .i64 x.Epoch),(l_api_Pair x.Pairs),(l_api_Sess x.Sess)]
structure oR_Table where
 L:List api_Pair
instance:Inhabited oR_Table:=⟨⟨[]⟩⟩
def e_oR_Table (x:oR_Table):List AV:=[(l_api_Pair x.L)]
structure oR_Sessions where
 L:List api_Sess
instance:Inhabited oR_Sessions:=⟨⟨[]⟩⟩
def e_oR_Sessions (x:oR_Sessions):List AV:=[(l_api_Sess x.L)]
structure oR_Shard where
 T:oR_Table
 S_:oR_Sessions
 ID:Int
 Epoch:Int
instance:Inhabited oR_Shard:=⟨⟨⟨[]⟩,⟨[]⟩,0,0⟩⟩
def e_oR_Shard (x:oR_Shard):List AV:=[(l_api_Pair x.T.L),(l_api_Sess x.S_.L),(.int .i64 x.ID),(.int .i64 x.Epoch)]
def F_oH_RawOp (l:List oH_RawOp):List AV:=l.flatMap e_oH_RawOp
theorem R_oH_RawOp:Row F_oH_RawOp e_oH_RawOp 8:=row_flat n_oH_RawOp
def l_oH_RawOp (l:List oH_RawOp):AV:=.list 8 l.length (F_oH_RawOp l) false
def F_B (l:List UInt8):List AV:=l.map fun x=>(byteC x)
theorem R_B:Row F_B (fun x=>[(byteC x)]) 1:=row_map _
def l_B (l:List UInt8):AV:=.list 1 l.length (F_B l) false
def F_I (l:List Int):List AV:=l.map fun x=>(.int .i64 x)
theorem R_I:Row F_I (fun x=>[(.int .i64 x)]) 1:=row_map _
def l_I (l:List Int):AV:=.list 1 l.length (F_I l) false
structure table_Table where
 l:List api_Pair
instance:Inhabited table_Table:=⟨⟨[]⟩⟩
def e_table_Table (x:table_Table):List AV:=[(l_api_Pair x.l)]
structure A4 (α:Type) where
 a0:α
 a1:α
 a2:α
 a3:α
instance {α:Type} [Inhabited α]:Inhabited (A4 α):=⟨⟨default,default,default,default⟩⟩
def A4.toL {α:Type} (x:A4 α):List α:=[x.a0,x.a1,x.a2,x.a3]
def A4.set {α:Type} (x:A4 α) (i:Int) (v:α):A4 α:=match i.toNat with
 | 0=>{ x with a0:=v }
 | 1=>{ x with a1:=v }
 | 2=>{ x with a2:=v }
 | 3=>{ x with a3:=v }
 | _=>x
theorem A4.toL_set {α:Type} (x:A4 α) {i:Int} {y v:α} (h:getI x.toL i=some y):(x.set i v).toL=x.toL.set i.toNat v:=by
 have:i.toNat < 4:=by
  unfold getI at h
  split at h
  ·exact (List.getElem?_eq_some_iff.1 h).1
  ·cases h
 unfold A4.set
 obtain ⟨k,hk⟩:∃ k,k=i.toNat:=⟨_,rfl⟩
 rw [← hk] at this ⊢
 match k,this with
 | 0,_=>rfl
 | 1,_=>rfl
 | 2,_=>rfl
 | 3,_=>rfl
structure session_Sessions where
 l:A4 api_Sess
instance:Inhabited session_Sessions:=⟨⟨⟨⟨0,0,⟨0,[]⟩⟩,⟨0,0,⟨0,[]⟩⟩,⟨0,0,⟨0,[]⟩⟩,⟨0,0,⟨0,[]⟩⟩⟩⟩⟩
def e_session_Sessions (x:session_Sessions):List AV:=[(.int .i64 x.l.a0.Client),(.int .i64 x.l.a0.Seq),(.int .i64 x.l.a0.Answer.Why),(.str x.l.a0.Answer.Value),(.int .i64 x.l.a1.Client),(.int .i64 x.l.a1.Seq),(.int .i64 x.l.a1.Answer.Why),(.str x.l.a1.Answer.Value),(.int .i64 x.l.a2.Client),(.int .i64 x.l.a2.Seq),(.int .i64 x.l.a2.Answer.Why),(.str x.l.a2.Answer.Value),(.int .i64 x.l.a3.Client),(.int .i64 x.l.a3.Seq),(.int .i64 x.l.a3.Answer.Why),(.str x.l.a3.Answer.Value)]
structure shard_Shard where
 Table:table_Table
 Sessions:session_Sessions
 ID:Int
 Epoch:Int
instance:Inhabited shard_Shard:=⟨⟨⟨[]⟩,⟨⟨⟨0,0,⟨0,[]⟩⟩,⟨0,0,⟨0,[]⟩⟩,⟨0,0,⟨0,[]⟩⟩,⟨0,0,⟨0,[]⟩⟩⟩⟩,0,0⟩⟩
def e_shard_Shard (x:shard_Shard):List AV:=[(l_api_Pair x.Table.l),(.int .i64 x.Sessions.l.a0.Client),(.int .i64 x.Sessions.l.a0.Seq),(.int .i64 x.Sessions.l.a0.Answer.Why),(.str x.Sessions.l.a0.Answer.Value),(.int .i64 x.Sessions.l.a1.Client),(.int .i64 x.Sessions.l.a1.Seq),(.int .i64 x.Sessions.l.a1.Answer.Why),(.str x.Sessions.l.a1.Answer.Value),(.int .i64 x.Sessions.l.a2.Client),(.int .i64 x.Sessions.l.a2.Seq),(.int .i64 x.Sessions.l.a2.Answer.Why),(.str x.Sessions.l.a2.Answer.Value),(.int .i64 x.Sessions.l.a3.Client),(.int .i64 x.Sessions.l.a3.Seq),(.int .i64 x.Sessions.l.a3.Answer.Why),(.str x.Sessions.l.a3.Answer.Value),(.int .i64 x.ID),(.int .i64 x.Epoch)]
structure oR_Reader where
 B:List UInt8
 E:Int
instance:Inhabited oR_Reader:=⟨⟨[],0⟩⟩
structure codec_reader where
 b:List UInt8
 e:Int
instance:Inhabited codec_reader:=⟨⟨[],0⟩⟩
def e_codec_reader (x:codec_reader):List AV:=[(l_B x.b),(.int .i64 x.e)]
structure oH_RawRec where
 Kind:Int
 Shard:Int
 Epoch:Int
 Host:Int
 N:Int
 Bend:Int
 Op:oH_RawOp
 Ops:List oH_RawOp
instance:Inhabited oH_RawRec:=⟨⟨0,0,0,0,0,0,⟨0,0,0,0,0,0,0,[]⟩,[]⟩⟩
structure api_Rec where
 Kind:Int
 Shard:Int
 Epoch:Int
 Host:Int
 N:Int
 Req:api_Req
 Image:api_Image
instance:Inhabited api_Rec:=⟨⟨0,0,0,0,0,⟨0,0,⟨0,[],[],[]⟩⟩,⟨0,0,[],[]⟩⟩⟩
def e_api_Rec (x:api_Rec):List AV:=[(.int .i64 x.Kind),(.int .i64 x.Shard),(.int .i64 x.Epoch),(.int .i64 x.Host),(.int .i64 x.N),(.int .i64 x.Req.Client),(.int .i64 x.Req.Seq),(.int .i64 x.Req.Op.Kind),(.str x.Req.Op.Key),(.str x.Req.Op.Value),(.str x.Req.Op.Old),(.int .i64 x.Image.Shard),(.int .i64 x.Image.Epoch),(l_api_Pair x.Image.Pairs),(l_api_Sess x.Image.Sess)]
structure oH_RawEntry where
 Inc:Int
 Status:Int
 Stamp:Int
 Load:Int
 Drain:Bool
instance:Inhabited oH_RawEntry:=⟨⟨0,0,0,0,false⟩⟩
def e_oH_RawEntry (x:oH_RawEntry):List AV:=[(.int .i64 x.Inc),(.int .i64 x.Status),(.int .i64 x.Stamp),(.int .i64 x.Load),(.bool x.Drain)]
theorem n_oH_RawEntry (x:oH_RawEntry):(e_oH_RawEntry x).length=5:=rfl
def F_oH_RawEntry (l:List oH_RawEntry):List AV:=l.flatMap e_oH_RawEntry
theorem R_oH_RawEntry:Row F_oH_RawEntry e_oH_RawEntry 5:=row_flat n_oH_RawEntry
def l_oH_RawEntry (l:List oH_RawEntry):AV:=.list 5 l.length (F_oH_RawEntry l) false
structure oH_RawMsg where
 Kind:Int
 From:Int
 To:Int
 Shard:Int
 Epoch:Int
 Weight:Int
 Load:Int
 Nonce:Int
 Why:Int
 Bend:Int
 Drain:Bool
 Op:oH_RawOp
 Path:List Int
 Table:List oH_RawEntry
 Ops:List oH_RawOp
instance:Inhabited oH_RawMsg:=⟨⟨0,0,0,0,0,0,0,0,0,0,false,⟨0,0,0,0,0,0,0,[]⟩,[],[],[]⟩⟩
def e_oH_RawMsg (x:oH_RawMsg):List AV:=[(.int .i64 x.Kind),(.int .i64 x.From),(.int .i64 x.To),(.int .i64 x.Shard),(.int .i64 x.Epoch),(.int .i64 x.Weight),(.int .i64 x.Load),(.int .i64 x.Nonce),(.int .i64 x.Why),(.int .i64 x.Bend),(.bool x.Drain),(.int .i64 x.Op.Kind),(.int .i64 x.Op.Key),(.int .i64 x.Op.Value),(.int .i64 x.Op.Old),(.int .i64 x.Op.Client),(.int .i64 x.Op.Seq),(.int .i64 x.Op.Bend),(.str x.Op.Text),(l_I x.Path),(l_oH_RawEntry x.Table),(l_oH_RawOp x.Ops)]
structure api_Entry where
 Inc:Int
 Status:Int
 Stamp:Int
 Load:Int
 Drain:Bool
instance:Inhabited api_Entry:=⟨⟨0,0,0,0,false⟩⟩
def e_api_Entry (x:api_Entry):List AV:=[(.int .i64 x.Inc),(.int .i64 x.Status),(.int .i64 x.Stamp),(.int .i64 x.Load),(.bool x.Drain)]
theorem n_api_Entry (x:api_Entry):(e_api_Entry x).length=5:=rfl
def F_api_Entry (l:List api_Entry):List AV:=l.flatMap e_api_Entry
theorem R_api_Entry:Row F_api_Entry e_api_Entry 5:=row_flat n_api_Entry
def l_api_Entry (l:List api_Entry):AV:=.list 5 l.length (F_api_Entry l) false
structure api_Msg where
 Kind:Int
 From:Int
 To:Int
 Shard:Int
 Epoch:Int
 Weight:Int
 Load:Int
 Nonce:Int
 Drain:Bool
 Req:api_Req
 Answer:api_Answer
 Path:List Int
 Table:List api_Entry
 Image:api_Image
instance:Inhabited api_Msg:=⟨⟨0,0,0,0,0,0,0,0,false,⟨0,0,⟨0,[],[],[]⟩⟩,⟨0,[]⟩,[],[],⟨0,0,[],[]⟩⟩⟩
def e_api_Msg (x:api_Msg):List AV:=[(.int .i64 x.Kind),(.int .i64 x.From),(.int .i64 x.To),(.int .i64 x.Shard),(.int .i64 x.Epoch),(.int .i64 x.Weight),(.int .i64 x.Load),(.int .i64 x.Nonce),(.bool x.Drain),(.int .i64 x.Req.Client),(.int .i64 x.Req.Seq),(.int .i64 x.Req.Op.Kind),(.str x.Req.Op.Key),(.str x.Req.Op.Value),(.str x.Req.Op.Old),(.int .i64 x.Answer.Why),(.str x.Answer.Value),(l_I x.Path),(l_api_Entry x.Table),(.int .i64 x.Image.Shard),(.int .i64 x.Image.Epoch),(l_api_Pair x.Image.Pairs),(l_api_Sess x.Image.Sess)]
structure msg_reader where
 b:List UInt8
 e:Int
instance:Inhabited msg_reader:=⟨⟨[],0⟩⟩
def e_msg_reader (x:msg_reader):List AV:=[(l_B x.b),(.int .i64 x.e)]
structure osmosislaw24_Raw where
 What:Int
 A:Int
 B:Int
 L:List oH_RawMsg
instance:Inhabited osmosislaw24_Raw:=⟨⟨0,0,0,[]⟩⟩
end Go.Proofs.YtgahmammhclobaaGreat
