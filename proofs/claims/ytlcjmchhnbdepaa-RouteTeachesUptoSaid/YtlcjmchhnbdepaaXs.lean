/- The data's types. -/
import Derived.Test.YtlcjmchhnbdepaaJ5
set_option linter.all false
set_option maxRecDepth 100000
namespace Go.Proofs.Ytlcjmchhnbdepaa
def F_I (l : List Int) : List AV := l.map fun x => (.int .i64 x)
theorem R_I : Row F_I (fun x => [(.int .i64 x)]) 1 := row_map _
theorem c_I : ∀ l, cleanL (F_I l) = true := clean_row R_I fun _ => rfl
def l_I (l : List Int) : AV := .list 1 l.length (F_I l) false
structure api_Op where
  Kind : Int
  Key : List UInt8
  Value : List UInt8
  Old : List UInt8

instance : Inhabited api_Op := ⟨⟨0, [], [], []⟩⟩
def e_api_Op (x : api_Op) : List AV := [(.int .i64 x.Kind), (.str x.Key), (.str x.Value), (.str x.Old)]
theorem n_api_Op (x : api_Op) : (e_api_Op x).length = 4 := rfl
structure api_Req where
  Client : Int
  Seq : Int
  Op : api_Op

instance : Inhabited api_Req := ⟨⟨0, 0, ⟨0, [], [], []⟩⟩⟩
def e_api_Req (x : api_Req) : List AV := [(.int .i64 x.Client), (.int .i64 x.Seq), (.int .i64 x.Op.Kind), (.str x.Op.Key), (.str x.Op.Value), (.str x.Op.Old)]
theorem n_api_Req (x : api_Req) : (e_api_Req x).length = 6 := rfl
structure api_Answer where
  Why : Int
  Value : List UInt8

instance : Inhabited api_Answer := ⟨⟨0, []⟩⟩
def e_api_Answer (x : api_Answer) : List AV := [(.int .i64 x.Why), (.str x.Value)]
theorem n_api_Answer (x : api_Answer) : (e_api_Answer x).length = 2 := rfl
structure api_Pair where
  Key : List UInt8
  Value : List UInt8

instance : Inhabited api_Pair := ⟨⟨[], []⟩⟩
def e_api_Pair (x : api_Pair) : List AV := [(.str x.Key), (.str x.Value)]
theorem n_api_Pair (x : api_Pair) : (e_api_Pair x).length = 2 := rfl
def F_api_Pair (l : List api_Pair) : List AV := l.flatMap e_api_Pair
theorem R_api_Pair : Row F_api_Pair e_api_Pair 2 := row_flat n_api_Pair
theorem c_api_Pair : ∀ l, cleanL (F_api_Pair l) = true := clean_row R_api_Pair fun _ => rfl
def l_api_Pair (l : List api_Pair) : AV := .list 2 l.length (F_api_Pair l) false
structure api_Sess where
  Client : Int
  Seq : Int
  Answer : api_Answer

instance : Inhabited api_Sess := ⟨⟨0, 0, ⟨0, []⟩⟩⟩
def e_api_Sess (x : api_Sess) : List AV := [(.int .i64 x.Client), (.int .i64 x.Seq), (.int .i64 x.Answer.Why), (.str x.Answer.Value)]
theorem n_api_Sess (x : api_Sess) : (e_api_Sess x).length = 4 := rfl
def F_api_Sess (l : List api_Sess) : List AV := l.flatMap e_api_Sess
theorem R_api_Sess : Row F_api_Sess e_api_Sess 4 := row_flat n_api_Sess
theorem c_api_Sess : ∀ l, cleanL (F_api_Sess l) = true := clean_row R_api_Sess fun _ => rfl
def l_api_Sess (l : List api_Sess) : AV := .list 4 l.length (F_api_Sess l) false
structure api_Image where
  Shard : Int
  Epoch : Int
  Pairs : List api_Pair
  Sess : List api_Sess

instance : Inhabited api_Image := ⟨⟨0, 0, [], []⟩⟩
def e_api_Image (x : api_Image) : List AV := [(.int .i64 x.Shard), (.int .i64 x.Epoch), (l_api_Pair x.Pairs), (l_api_Sess x.Sess)]
theorem n_api_Image (x : api_Image) : (e_api_Image x).length = 4 := rfl
structure api_Entry where
  Inc : Int
  Status : Int
  Stamp : Int
  Load : Int
  Drain : Bool

instance : Inhabited api_Entry := ⟨⟨0, 0, 0, 0, false⟩⟩
def e_api_Entry (x : api_Entry) : List AV := [(.int .i64 x.Inc), (.int .i64 x.Status), (.int .i64 x.Stamp), (.int .i64 x.Load), (.bool x.Drain)]
theorem n_api_Entry (x : api_Entry) : (e_api_Entry x).length = 5 := rfl
def F_api_Entry (l : List api_Entry) : List AV := l.flatMap e_api_Entry
theorem R_api_Entry : Row F_api_Entry e_api_Entry 5 := row_flat n_api_Entry
theorem c_api_Entry : ∀ l, cleanL (F_api_Entry l) = true := clean_row R_api_Entry fun _ => rfl
def l_api_Entry (l : List api_Entry) : AV := .list 5 l.length (F_api_Entry l) false
structure api_Msg where
  Kind : Int
  From : Int
  To : Int
  Shard : Int
  Epoch : Int
  Weight : Int
  Load : Int
  Nonce : Int
  Drain : Bool
  Req : api_Req
  Answer : api_Answer
  Path : List Int
  Table : List api_Entry
  Image : api_Image

instance : Inhabited api_Msg := ⟨⟨0, 0, 0, 0, 0, 0, 0, 0, false, ⟨0, 0, ⟨0, [], [], []⟩⟩, ⟨0, []⟩, [], [], ⟨0, 0, [], []⟩⟩⟩
def e_api_Msg (x : api_Msg) : List AV := [(.int .i64 x.Kind), (.int .i64 x.From), (.int .i64 x.To), (.int .i64 x.Shard), (.int .i64 x.Epoch), (.int .i64 x.Weight), (.int .i64 x.Load), (.int .i64 x.Nonce), (.bool x.Drain), (.int .i64 x.Req.Client), (.int .i64 x.Req.Seq), (.int .i64 x.Req.Op.Kind), (.str x.Req.Op.Key), (.str x.Req.Op.Value), (.str x.Req.Op.Old), (.int .i64 x.Answer.Why), (.str x.Answer.Value), (l_I x.Path), (l_api_Entry x.Table), (.int .i64 x.Image.Shard), (.int .i64 x.Image.Epoch), (l_api_Pair x.Image.Pairs), (l_api_Sess x.Image.Sess)]
theorem n_api_Msg (x : api_Msg) : (e_api_Msg x).length = 23 := rfl
def F_api_Msg (l : List api_Msg) : List AV := l.flatMap e_api_Msg
theorem R_api_Msg : Row F_api_Msg e_api_Msg 23 := row_flat n_api_Msg
def l_api_Msg (l : List api_Msg) : AV := .list 23 l.length (F_api_Msg l) false
def cv_MI_O : Bool → AV := fun x : Bool => (.bool x)
def m_MI_O (l : List (Int × Bool)) : List (AV × AV) := mE (AV.int .i64) cv_MI_O l
end Go.Proofs.Ytlcjmchhnbdepaa
