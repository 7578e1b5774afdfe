/- The data's types. -/
import Derived.Test.YteibgagdnidojaaJ5
set_option linter.all false
set_option maxRecDepth 100000
namespace Go.Proofs.Yteibgagdnidojaa
structure osmosislaw7_Raw where
  Client : Int
  Seq : Int
  Why : Int
  Value : Int

instance : Inhabited osmosislaw7_Raw := ⟨⟨0, 0, 0, 0⟩⟩
def e_osmosislaw7_Raw (x : osmosislaw7_Raw) : List AV := [(.int .i64 x.Client), (.int .i64 x.Seq), (.int .i64 x.Why), (.int .i64 x.Value)]
theorem n_osmosislaw7_Raw (x : osmosislaw7_Raw) : (e_osmosislaw7_Raw x).length = 4 := rfl
def F_osmosislaw7_Raw (l : List osmosislaw7_Raw) : List AV := l.flatMap e_osmosislaw7_Raw
theorem R_osmosislaw7_Raw : Row F_osmosislaw7_Raw e_osmosislaw7_Raw 4 := row_flat n_osmosislaw7_Raw
def l_osmosislaw7_Raw (l : List osmosislaw7_Raw) : AV := .list 4 l.length (F_osmosislaw7_Raw l) false
def F_S (l : List (List UInt8)) : List AV := l.map fun x => (.str x)
theorem R_S : Row F_S (fun x => [(.str x)]) 1 := row_map _
def l_S (l : List (List UInt8)) : AV := .list 1 l.length (F_S l) false
structure api_Answer where
  Why : Int
  Value : List UInt8

instance : Inhabited api_Answer := ⟨⟨0, []⟩⟩
def e_api_Answer (x : api_Answer) : List AV := [(.int .i64 x.Why), (.str x.Value)]
theorem n_api_Answer (x : api_Answer) : (e_api_Answer x).length = 2 := rfl
structure api_Sess where
  Client : Int
  Seq : Int
  Answer : api_Answer

instance : Inhabited api_Sess := ⟨⟨0, 0, ⟨0, []⟩⟩⟩
def e_api_Sess (x : api_Sess) : List AV := [(.int .i64 x.Client), (.int .i64 x.Seq), (.int .i64 x.Answer.Why), (.str x.Answer.Value)]
theorem n_api_Sess (x : api_Sess) : (e_api_Sess x).length = 4 := rfl
def F_api_Sess (l : List api_Sess) : List AV := l.flatMap e_api_Sess
theorem R_api_Sess : Row F_api_Sess e_api_Sess 4 := row_flat n_api_Sess
def l_api_Sess (l : List api_Sess) : AV := .list 4 l.length (F_api_Sess l) false
structure A4 (α : Type) where
  a0 : α
  a1 : α
  a2 : α
  a3 : α

instance {α : Type} [Inhabited α] : Inhabited (A4 α) := ⟨⟨default, default, default, default⟩⟩
def A4.toL {α : Type} (x : A4 α) : List α := [x.a0, x.a1, x.a2, x.a3]
def A4.set {α : Type} (x : A4 α) (i : Int) (v : α) : A4 α := match i.toNat with
  | 0 => { x with a0 := v }
  | 1 => { x with a1 := v }
  | 2 => { x with a2 := v }
  | 3 => { x with a3 := v }
  | _ => x
theorem A4.toL_set {α : Type} (x : A4 α) {i : Int} {y v : α} (h : getI x.toL i = some y) : (x.set i v).toL = x.toL.set i.toNat v := by
  have : i.toNat < 4 := by
    unfold getI at h
    split at h
    · exact (List.getElem?_eq_some_iff.1 h).1
    · cases h
  unfold A4.set
  obtain ⟨k, hk⟩ : ∃ k, k = i.toNat := ⟨_, rfl⟩
  rw [← hk] at this ⊢
  match k, this with
  | 0, _ => rfl
  | 1, _ => rfl
  | 2, _ => rfl
  | 3, _ => rfl
def e_A4api_Sess (x : A4 api_Sess) : List AV := [(.int .i64 x.a0.Client), (.int .i64 x.a0.Seq), (.int .i64 x.a0.Answer.Why), (.str x.a0.Answer.Value), (.int .i64 x.a1.Client), (.int .i64 x.a1.Seq), (.int .i64 x.a1.Answer.Why), (.str x.a1.Answer.Value), (.int .i64 x.a2.Client), (.int .i64 x.a2.Seq), (.int .i64 x.a2.Answer.Why), (.str x.a2.Answer.Value), (.int .i64 x.a3.Client), (.int .i64 x.a3.Seq), (.int .i64 x.a3.Answer.Why), (.str x.a3.Answer.Value)]
theorem n_A4api_Sess (x : A4 api_Sess) : (e_A4api_Sess x).length = 16 := rfl
structure session_Sessions where
  l : A4 api_Sess

instance : Inhabited session_Sessions := ⟨⟨⟨⟨0, 0, ⟨0, []⟩⟩, ⟨0, 0, ⟨0, []⟩⟩, ⟨0, 0, ⟨0, []⟩⟩, ⟨0, 0, ⟨0, []⟩⟩⟩⟩⟩
def e_session_Sessions (x : session_Sessions) : List AV := [(.int .i64 x.l.a0.Client), (.int .i64 x.l.a0.Seq), (.int .i64 x.l.a0.Answer.Why), (.str x.l.a0.Answer.Value), (.int .i64 x.l.a1.Client), (.int .i64 x.l.a1.Seq), (.int .i64 x.l.a1.Answer.Why), (.str x.l.a1.Answer.Value), (.int .i64 x.l.a2.Client), (.int .i64 x.l.a2.Seq), (.int .i64 x.l.a2.Answer.Why), (.str x.l.a2.Answer.Value), (.int .i64 x.l.a3.Client), (.int .i64 x.l.a3.Seq), (.int .i64 x.l.a3.Answer.Why), (.str x.l.a3.Answer.Value)]
theorem n_session_Sessions (x : session_Sessions) : (e_session_Sessions x).length = 16 := rfl
structure osmosisref1_Sessions where
  L : List api_Sess

instance : Inhabited osmosisref1_Sessions := ⟨⟨[]⟩⟩
def e_osmosisref1_Sessions (x : osmosisref1_Sessions) : List AV := [(l_api_Sess x.L)]
theorem n_osmosisref1_Sessions (x : osmosisref1_Sessions) : (e_osmosisref1_Sessions x).length = 1 := rfl
end Go.Proofs.Yteibgagdnidojaa
