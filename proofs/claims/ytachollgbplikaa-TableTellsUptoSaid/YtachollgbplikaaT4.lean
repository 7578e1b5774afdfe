/- The law TableTells: its Lean function tells true. -/
import Derived.Test.YtachollgbplikaaT3
import Derived.Test.YtachollgbplikaaXrTableTells
set_option linter.all false
set_option linter.unusedSimpArgs false
namespace Go.Proofs.Ytachollgbplikaa

def ttP (x : Int) : api_Pair := ⟨if osmosishand_Pick x 11 = some 10 then [109, 117, 99, 104, 32, 116, 111, 111, 32, 108, 111, 110, 103] else keyS x, valS (IntKind.i64.wrap (Int.tdiv x 16))⟩
def reqO (x : osmosishand_RawOp) : api_Op := ((osmosishand_Req x).getD ⟨0, 0, ⟨0, [], [], []⟩⟩).Op
theorem osmosislaw6_TableTells_true (x0 : List osmosishand_RawOp) (x1 : List Int) (o0 : (okL ok_osmosishand_RawOp) x0) (o1 : (okL okI) x1) (hb : (bkL bk_osmosishand_RawOp) x0 + (bkL bk1) x1 ≤ 1048576) : osmosislaw6_TableTells x0 x1 = some true := by
  have h0 : x0.length ≤ 1048576 := by have := bkL_len (bk := bk_osmosishand_RawOp) (fun x => by unfold bk_osmosishand_RawOp; omega) x0; omega
  have h1 : x1.length ≤ 1048576 := by have := bkL_one' x1; omega
  have k0 : osmosislaw6_TableTells_L0 x1 x0 (0, []) = some (x1.map ttP) := by
    refine loop_run (fun i => ((i : Int), (x1.take i).map ttP)) x1.length _ (fun i hi => ?_) ?_ (by omega)
    · have h2 : ((x1.take i).map ttP).length = i := by rw [List.length_map, List.length_take]; omega
      have h3 : (x1.take (i + 1)).map ttP = (x1.take i).map ttP ++ [ttP x1[i]] := by rw [List.take_succ_eq_append_getElem hi, List.map_append]; rfl
      rw [h3]
      generalize (x1.take i).map ttP = l at *
      unfold osmosislaw6_TableTells_L0_s
      simp only
      obtain ⟨k, hk, _⟩ := pick_nat x1[i] 11 (by omega) (by omega)
      have hk : osmosishand_Pick x1[i] 11 = some (k : Int) := hk
      rw [dec_t (by omega), cond_true, getI_at hi, Option.bind_some, key_eq, Option.bind_some, val_eq, Option.bind_some, gd_fits (by omega) (by rw [List.length_append]; simp only [List.length_singleton]; omega), hk, Option.bind_some, wrap_id (x := (i : Int) + 1) (by omega) (by omega), succ_cast]
      have e1 : (l ++ [(⟨keyS x1[i], valS (IntKind.i64.wrap (Int.tdiv x1[i] 16))⟩ : api_Pair)]).length = i + 1 := by rw [List.length_append]; simp only [List.length_singleton]; omega
      rw [e1, show ((i + 1 : Nat) : Int) - 1 = (i : Int) by omega, wrap_id (x := (i : Int)) (by omega) (by omega), getI_at (by omega), Option.bind_some]
      unfold ttP
      rw [hk]
      by_cases q : k = 10
      · subst q
        rw [if_pos (show some ((10 : Nat) : Int) = some 10 from rfl), beq_t (show ((10 : Nat) : Int) = 10 from rfl), cond_true]
        congr 4
        have : (l ++ [(⟨keyS x1[i], valS (IntKind.i64.wrap (Int.tdiv x1[i] 16))⟩ : api_Pair)])[i]'(by omega) = ⟨keyS x1[i], valS (IntKind.i64.wrap (Int.tdiv x1[i] 16))⟩ := by
          rw [List.getElem_append_right (by omega)]
          simp [h2]
        rw [this, Int.toNat_natCast, List.set_append_right _ _ (by omega), h2, Nat.sub_self]
        rfl
      · rw [beq_f (by omega), cond_false, if_neg (by intro z; injection z with z; omega)]
    · unfold osmosislaw6_TableTells_L0_s
      simp only
      rw [dec_f (by omega), cond_false, List.take_length]
  have hm : (x1.map ttP).length < 1000000000 := by rw [List.length_map]; omega
  unfold osmosislaw6_TableTells
  rw [k0, Option.bind_some, of_plain _ hm, Option.bind_some, rof_plain _ hm, Option.bind_some]
  have hf : ∀ l : List osmosishand_RawOp, ∀ L, OkT L → OkT (l.foldl (fun L x => (doP (reqO x) L).2) L) := by
    intro l
    induction l with
    | nil => exact fun L h => h
    | cons x l ih => exact fun L h => ih _ (do_ok h _)
  have k1 : osmosislaw6_TableTells_L1 x0 (0, ⟨ofP [] (x1.map ttP)⟩, ⟨ofP [] (x1.map ttP)⟩) = some (.inr ()) := by
    have ok := ofP_ok (x1.map ttP) _ ok0
    generalize ofP [] (x1.map ttP) = L0 at *
    refine loop_run (fun i => ((i : Int), (⟨(x0.take i).foldl (fun L x => (doP (reqO x) L).2) L0⟩ : table_Table), (⟨(x0.take i).foldl (fun L x => (doP (reqO x) L).2) L0⟩ : osmosisref1_Table))) x0.length _ (fun i hi => ?_) ?_ (by omega)
    · have okL := hf (x0.take i) L0 ok
      rw [List.take_succ_eq_append_getElem hi, List.foldl_append]
      generalize (x0.take i).foldl (fun L x => (doP (reqO x) L).2) L0 = L at *
      have okD := do_ok okL (reqO x0[i])
      obtain ⟨r, hr⟩ := req_some x0[i]
      have hro : r.Op = reqO x0[i] := by unfold reqO; rw [hr]; rfl
      show osmosislaw6_TableTells_L1_s x0 ((i : Int), ⟨L⟩, ⟨L⟩) = some (.inl (((i + 1 : Nat) : Int), ⟨(doP (reqO x0[i]) L).2⟩, ⟨(doP (reqO x0[i]) L).2⟩))
      unfold osmosislaw6_TableTells_L1_s
      simp only
      rw [dec_t (by omega), cond_true, getI_at hi, Option.bind_some, hr, Option.bind_some, hro, do3_plain _ _ okL, Option.bind_some, rdo3_plain _ _ okL, Option.bind_some]
      simp only [beq_self_eq_true, Bool.and_true, Bool.not_true]
      rw [cond_false, right_plain, Option.bind_some, rright_plain, Option.bind_some]
      simp only [beq_self_eq_true, Bool.not_true]
      unfold table_Table_Len_2
      rw [cond_false, Option.bind_some, bne_f rfl, cond_false, pairs_plain _ okD, Option.bind_some, same6_self _ (Nat.lt_of_le_of_lt okD.2 (by omega)), Option.bind_some, wrap_id (by omega) (by omega), succ_cast]
      rfl
    · unfold osmosislaw6_TableTells_L1_s
      simp only
      rw [dec_f (by omega), cond_false]
  rw [k1, Option.bind_some, known6]
  rfl
end Go.Proofs.Ytachollgbplikaa
