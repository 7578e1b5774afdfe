/- The law TableValue: its Lean function tells true. -/
import Derived.Test.YtachollgbplikaaT3
import Derived.Test.YtachollgbplikaaXrTableValue
set_option linter.all false
set_option linter.unusedSimpArgs false
namespace Go.Proofs.Ytachollgbplikaa

def tvP (x : Int) : api_Pair := ⟨keyS x, valS (IntKind.i64.wrap (Int.tdiv x 16))⟩
def opS (x : osmosishand_RawOp) : api_Op := (osmosishand_Op x.Kind x.Key x.Value x.Old).getD ⟨0, [], [], []⟩
theorem op_eq (x : osmosishand_RawOp) : osmosishand_Op x.Kind x.Key x.Value x.Old = some (opS x) := by
  obtain ⟨v, h⟩ := op_some x.Kind x.Key x.Value x.Old
  unfold opS
  rw [h]
  rfl
def opsP (L : List api_Pair) (l : List osmosishand_RawOp) : List api_Pair := l.foldl (fun L x => (doP (opS x) L).2) L
theorem opsP_ok (l : List osmosishand_RawOp) : ∀ L, OkT L → OkT (opsP L l) := by
  induction l with
  | nil => exact fun L h => h
  | cons x l ih => exact fun L h => ih _ (do_ok h _)
theorem ops_loop {E : Type} (a : List osmosishand_RawOp) (h : a.length ≤ 1048576) (t : table_Table) (ok : OkT t.l) (f : Int × table_Table → Option ((Int × table_Table) ⊕ E)) (e : table_Table → E)
    (hf : ∀ s, f s = cond (decide (s.1 < (a.length : Int))) ((getI a s.1).bind fun (x23 : osmosishand_RawOp) => (osmosishand_Op x23.Kind x23.Key x23.Value x23.Old).bind fun (x24 : api_Op) => (table_Table_Do_3 x24 s.2).bind fun (x25 : api_Answer × table_Table) => some (.inl ((IntKind.i64.wrap (s.1 + 1)), x25.2))) (some (.inr (e s.2)))) :
    loopX f KK (0, t) = some (e ⟨opsP t.l a⟩) := by
  refine loop_run (fun i => ((i : Int), (⟨opsP t.l (a.take i)⟩ : table_Table))) a.length _ (fun i hi => ?_) ?_ (by omega)
  · rw [hf]
    simp only
    rw [dec_t (by omega), cond_true, getI_at hi, Option.bind_some, op_eq, Option.bind_some, do3_plain _ ⟨opsP t.l (a.take i)⟩ (opsP_ok _ _ ok), Option.bind_some, wrap_id (by omega) (by omega), succ_cast, List.take_succ_eq_append_getElem hi]
    unfold opsP
    rw [List.foldl_append]
    rfl
  · rw [hf]
    simp only
    rw [dec_f (by omega), cond_false, List.take_length]

theorem osmosislaw6_TableValue_true (x0 : List Int) (x1 : List osmosishand_RawOp) (x2 : List osmosishand_RawOp) (o0 : (okL okI) x0) (o1 : (okL ok_osmosishand_RawOp) x1) (o2 : (okL ok_osmosishand_RawOp) x2) (hb : (bkL bk1) x0 + (bkL bk_osmosishand_RawOp) x1 + (bkL bk_osmosishand_RawOp) x2 ≤ 1048576) : osmosislaw6_TableValue x0 x1 x2 = some true := by
  have h0 : x0.length ≤ 1048576 := by have := bkL_one' x0; omega
  have h1 : x1.length ≤ 1048576 := by have := bkL_len (bk := bk_osmosishand_RawOp) (fun x => by unfold bk_osmosishand_RawOp; omega) x1; omega
  have h2 : x2.length ≤ 1048576 := by have := bkL_len (bk := bk_osmosishand_RawOp) (fun x => by unfold bk_osmosishand_RawOp; omega) x2; omega
  have k0 : osmosislaw6_TableValue_L0 x0 x1 x2 (0, []) = some (x0.map tvP) := by
    refine loop_run (fun i => ((i : Int), (x0.take i).map tvP)) x0.length _ (fun i hi => ?_) ?_ (by omega)
    · have h2 : ((x0.take i).map tvP).length = i := by rw [List.length_map, List.length_take]; omega
      have h3 : (x0.take (i + 1)).map tvP = (x0.take i).map tvP ++ [tvP x0[i]] := by rw [List.take_succ_eq_append_getElem hi, List.map_append]; rfl
      rw [h3]
      generalize (x0.take i).map tvP = l at *
      unfold osmosislaw6_TableValue_L0_s
      simp only
      rw [dec_t (by omega), cond_true, getI_at hi, Option.bind_some, key_eq, Option.bind_some, val_eq, Option.bind_some, gd_fits (by omega) (by rw [List.length_append]; simp only [List.length_singleton]; omega), wrap_id (x := (i : Int) + 1) (by omega) (by omega), succ_cast]
      rfl
    · unfold osmosislaw6_TableValue_L0_s
      simp only
      rw [dec_f (by omega), cond_false, List.take_length]
  have hm : (x0.map tvP).length < 1000000000 := by rw [List.length_map]; omega
  have ok := ofP_ok (x0.map tvP) _ ok0
  unfold osmosislaw6_TableValue
  rw [k0, Option.bind_some, of_plain _ hm, Option.bind_some]
  generalize ofP [] (x0.map tvP) = L at *
  have hL := ok.2
  have okV := ofP_ok L _ ok0
  rw [pairs_plain ⟨L⟩ ok, Option.bind_some, of_plain L (by omega), Option.bind_some, Option.bind_some]
  simp only
  generalize ofP [] L = V at *
  have l1 : ∀ w, osmosislaw6_TableValue_L1 x1 x2 L ⟨L⟩ w (0, ⟨L⟩) = some ⟨opsP L x1⟩ := fun w => ops_loop x1 h1 ⟨L⟩ ok _ (fun t => t) (fun _ => rfl)
  rw [l1, Option.bind_some]
  have p2 : table_Table_Pairs_2 ⟨L⟩ = some L := pairs_plain ⟨L⟩ ok
  rw [p2, Option.bind_some]
  have l2 : ∀ w v, osmosislaw6_TableValue_L2 L x1 x2 L ⟨L⟩ w v (0, L) = some () := by
    intro w v
    have key : ∃ e, osmosislaw6_TableValue_L2 L x1 x2 L ⟨L⟩ w v (0, L) = some e ∧ e = () := by
      refine loopX_inv (fun (s : Int × List api_Pair) => L.length - s.1.toNat) (fun s => ∃ (i : Nat) (M : List api_Pair), s = ((i : Int), M) ∧ i ≤ L.length ∧ M.length = L.length) _ ?_ KK _ ⟨0, L, rfl, by omega, rfl⟩ (by have := KK_big; simp only; omega)
      rintro s ⟨i, M, rfl, q1, q2⟩
      simp only [osmosislaw6_TableValue_L2_s]
      by_cases c : i < L.length
      · left
        rw [dec_t (by omega), cond_true, getI_at (by omega), Option.bind_some, wrap_id (by omega) (by omega), succ_cast]
        exact ⟨_, rfl, ⟨i + 1, _, rfl, by omega, by rw [List.length_set]; exact q2⟩, by simp only; omega⟩
      · right
        rw [dec_f (by omega), cond_false]
        exact ⟨_, rfl, by trivial⟩
    obtain ⟨e, e1, _⟩ := key
    exact e1
  rw [l2, Option.bind_some]
  have l3 : ∀ w, osmosislaw6_TableValue_L3 x2 x1 L ⟨L⟩ w (0, ⟨V⟩) = some () := fun w => ops_loop x2 h2 ⟨V⟩ okV _ (fun _ => ()) (fun _ => rfl)
  rw [l3, Option.bind_some]
  have l4 : ∀ w, osmosislaw6_TableValue_L4 x1 L ⟨L⟩ w (0, ⟨L⟩) = some ⟨opsP L x1⟩ := fun w => ops_loop x1 h1 ⟨L⟩ ok _ (fun t => t) (fun _ => rfl)
  rw [l4, Option.bind_some, known6, Option.bind_some, cond_true]
  have okO := opsP_ok x1 _ ok
  rw [Option.bind_some, same6_self L (by omega), Option.bind_some, cond_true, pairs_plain ⟨opsP L x1⟩ okO, Option.bind_some, Option.bind_some, same6_self _ (Nat.lt_of_le_of_lt okO.2 (by omega))]
  rfl
end Go.Proofs.Ytachollgbplikaa
