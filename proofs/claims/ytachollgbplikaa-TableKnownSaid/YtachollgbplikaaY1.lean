/- Functions as Lean functions, part 1. -/
import Derived.Test.YtachollgbplikaaXt
import Derived.Test.YtachollgbplikaaXs
set_option linter.all false
set_option maxRecDepth 100000
namespace Go.Proofs.Ytachollgbplikaa
/- osmosis/table.Right -/
abbrev in_table_Right_J0 (o : api_Op) : Fast × WH := ([(1, (.ptr (some (0, 0))))], [(some (.cells (e_api_Op o) false false))])
def fin_table_Right_J0 (o : api_Op) : Bool → Ex × Fast × WH := fun e => (.normal, [(1, (.ptr (some (0, 0)))), (3, (.bool e))], [(some (.cells (e_api_Op o) false false))])
def table_Right_J0 (o : api_Op) : Option (Bool) :=
  cond (o.Kind == 2) (some true) (some (o.Kind == 4))
theorem s_table_Right_J0 (d : Nat) {o : api_Op} {r : Bool} (h : table_Right_J0 o = some r) : RunX (bexec (wcalls atab (d + 0)) KK 53 WJ57_ba) 0 (in_table_Right_J0 o) (fin_table_Right_J0 o r) := by
  have e : ∀ C : ACalls, wCode C (fun _ => none) KK 53 0 WJ57_ba (in_table_Right_J0 o).1 (in_table_Right_J0 o).2 (.br 7 (.en [1, 3] [none, none] [] []) (.en [1, 3] [none, none] [] [])) (fin_table_Right_J0 o r) = (((o.Kind == 2) = true → lfe (fin_table_Right_J0 o) true r) ∧ ((o.Kind == 2) = false → lfe (fin_table_Right_J0 o) (o.Kind == 4) r)) := fun C => by kernel_rfl
  refine runS_of (fun _ _ h => by cases h) WJ57_ba_ok (Nat.le_of_ble_eq_true rfl) ((e _).mpr ?_)
  unfold table_Right_J0 at h
  refine ⟨fun hb => ?_, fun hb => ?_⟩
  · have h := cond_t hb h
    exact lfe_of h
  · have h := cond_f hb h
    exact lfe_of h

abbrev in_table_Right_J1 (o : api_Op) (x1 : Bool) : Fast × WH := ([(1, (.ptr (some (0, 0)))), (3, (.bool x1))], [(some (.cells (e_api_Op o) false false))])
def fin_table_Right_J1 (o : api_Op) (x1 : Bool) : Bool → Ex × Fast × WH := fun e => (.normal, [(1, (.ptr (some (0, 0)))), (3, (.bool x1)), (12, (.bool e))], [(some (.cells (e_api_Op o) false false))])
def table_Right_J1 (o : api_Op) (x1 : Bool) : Option (Bool) :=
  cond (decide (o.Kind < 1)) (some true) (some (decide (o.Kind > 4)))
theorem s_table_Right_J1 (d : Nat) {o : api_Op} {x1 : Bool} {r : Bool} (h : table_Right_J1 o x1 = some r) : RunX (bexec (wcalls atab (d + 0)) KK 53 WJ57_bbakaa) 0 (in_table_Right_J1 o x1) (fin_table_Right_J1 o x1 r) := by
  have e : ∀ C : ACalls, wCode C (fun _ => none) KK 53 0 WJ57_bbakaa (in_table_Right_J1 o x1).1 (in_table_Right_J1 o x1).2 (.br 16 (.en [1, 3, 12] [none, none, none] [] []) (.en [1, 3, 12] [none, none, none] [] [])) (fin_table_Right_J1 o x1 r) = (((decide (o.Kind < 1)) = true → lfe (fin_table_Right_J1 o x1) true r) ∧ ((decide (o.Kind < 1)) = false → lfe (fin_table_Right_J1 o x1) (decide (o.Kind > 4)) r)) := fun C => by kernel_rfl
  refine runS_of (fun _ _ h => by cases h) WJ57_bbakaa_ok (Nat.le_of_ble_eq_true rfl) ((e _).mpr ?_)
  unfold table_Right_J1 at h
  refine ⟨fun hb => ?_, fun hb => ?_⟩
  · have h := cond_t hb h
    exact lfe_of h
  · have h := cond_f hb h
    exact lfe_of h

abbrev in_table_Right_J2 (o : api_Op) (x1 : Bool) : Fast × WH := ([(1, (.ptr (some (0, 0)))), (3, (.bool x1))], [(some (.cells (e_api_Op o) false false))])
def fin_table_Right_J2 (o : api_Op) (x1 : Bool) : Bool → Ex × Fast × WH := fun e => (.normal, [(1, (.ptr (some (0, 0)))), (3, (.bool x1)), (12, (.bool e))], [(some (.cells (e_api_Op o) false false))])
def table_Right_J2 (o : api_Op) (x1 : Bool) : Option (Bool) :=
  (table_Right_J1 o x1).bind fun (x2 : Bool) => cond x2 (some true) (cond (o.Key == ([] : List UInt8)) (some true) (some (decide ((o.Key.length : Int) > 8))))
theorem s_table_Right_J2 (d : Nat) {o : api_Op} {x1 : Bool} {r : Bool} (h : table_Right_J2 o x1 = some r) : RunX (bexec (wcalls atab (d + 0)) KK 53 WJ57_bbaka) 0 (in_table_Right_J2 o x1) (fin_table_Right_J2 o x1 r) := by
  obtain ⟨x2, hx2⟩ := wx (table_Right_J1 o x1)
  have e : ∀ C : ACalls, wCode C (fun _ => none) KK 53 0 WJ57_bbaka (in_table_Right_J2 o x1).1 (in_table_Right_J2 o x1).2 (.jn [1, 3] [none, none] [] [] .normal [(1, (.ptr (some (0, 0)))), (3, (.bool x1)), (12, (.bool x2))] [(some (.cells (e_api_Op o) false false))] (.br 12 (.en [1, 3, 12] [none, none, none] [] []) (.br 12 (.en [1, 3, 12] [none, none, none] [] []) (.en [1, 3, 12] [none, none, none] [] [])))) (fin_table_Right_J2 o x1 r) = (RunS (bexec C KK 53 WJ57_bbakaa) 0 [(1, (.ptr (some (0, 0)))), (3, (.bool x1))] [(some (.cells (e_api_Op o) false false))] .normal [(1, (.ptr (some (0, 0)))), (3, (.bool x1)), (12, (.bool x2))] [(some (.cells (e_api_Op o) false false))] ∧ ((x2 = true → lfe (fin_table_Right_J2 o x1) true r) ∧ (x2 = false → (((o.Key == ([] : List UInt8)) = true → lfe (fin_table_Right_J2 o x1) true r) ∧ ((o.Key == ([] : List UInt8)) = false → lfe (fin_table_Right_J2 o x1) (decide ((o.Key.length : Int) > 8)) r))))) := fun C => by kernel_rfl
  refine runS_of (fun _ _ h => by cases h) WJ57_bbaka_ok (Nat.le_of_ble_eq_true rfl) ((e _).mpr ?_)
  unfold table_Right_J2 at h
  obtain ⟨q2, h⟩ := bget hx2 h
  refine ⟨s_table_Right_J1 (d + 0) q2, ?_⟩
  refine ⟨fun hb => ?_, fun hb => ?_⟩
  · have h := cond_t hb h
    exact lfe_of h
  · have h := cond_f hb h
    refine ⟨fun hb => ?_, fun hb => ?_⟩
    · have h := cond_t hb h
      exact lfe_of h
    · have h := cond_f hb h
      exact lfe_of h

abbrev in_table_Right_J3 (o : api_Op) (x1 : Bool) : Fast × WH := ([(1, (.ptr (some (0, 0)))), (3, (.bool x1))], [(some (.cells (e_api_Op o) false false))])
def fin_table_Right_J3 (o : api_Op) (x1 : Bool) : Unit ⊕ Unit → Ex × Fast × WH := fun
  | .inl e => (.ret, [(2, (.bool false))], [])
  | .inr e => (.normal, [(1, (.ptr (some (0, 0)))), (3, (.bool x1))], [(some (.cells (e_api_Op o) false false))])
def table_Right_J3 (o : api_Op) (x1 : Bool) : Option (Unit ⊕ Unit) :=
  (table_Right_J2 o x1).bind fun (x3 : Bool) => cond x3 (some (.inl ())) (cond (decide ((o.Value.length : Int) > 16)) (some (.inl ())) (cond (decide ((o.Old.length : Int) > 16)) (some (.inl ())) (some (.inr ()))))
theorem s_table_Right_J3 (d : Nat) {o : api_Op} {x1 : Bool} {r : Unit ⊕ Unit} (h : table_Right_J3 o x1 = some r) : RunX (bexec (wcalls atab (d + 0)) KK 53 WJ57_bba) 0 (in_table_Right_J3 o x1) (fin_table_Right_J3 o x1 r) := by
  obtain ⟨x3, hx3⟩ := wx (table_Right_J2 o x1)
  have e : ∀ C : ACalls, wCode C (fun _ => none) KK 53 0 WJ57_bba (in_table_Right_J3 o x1).1 (in_table_Right_J3 o x1).2 (.jn [1, 3] [none, none] [] [] .normal [(1, (.ptr (some (0, 0)))), (3, (.bool x1)), (12, (.bool x3))] [(some (.cells (e_api_Op o) false false))] (.br 12 (.en [2] [none] [] []) (.br 28 (.en [2] [none] [] []) (.br 28 (.en [2] [none] [] []) (.en [1, 3] [none, none] [] []))))) (fin_table_Right_J3 o x1 r) = (RunS (bexec C KK 53 WJ57_bbaka) 0 [(1, (.ptr (some (0, 0)))), (3, (.bool x1))] [(some (.cells (e_api_Op o) false false))] .normal [(1, (.ptr (some (0, 0)))), (3, (.bool x1)), (12, (.bool x3))] [(some (.cells (e_api_Op o) false false))] ∧ ((x3 = true → lfe (fin_table_Right_J3 o x1) (.inl ()) r) ∧ (x3 = false → (((decide ((o.Value.length : Int) > 16)) = true → lfe (fin_table_Right_J3 o x1) (.inl ()) r) ∧ ((decide ((o.Value.length : Int) > 16)) = false → (((decide ((o.Old.length : Int) > 16)) = true → lfe (fin_table_Right_J3 o x1) (.inl ()) r) ∧ ((decide ((o.Old.length : Int) > 16)) = false → lfe (fin_table_Right_J3 o x1) (.inr ()) r))))))) := fun C => by kernel_rfl
  refine runS_of (fun _ _ h => by cases h) WJ57_bba_ok (Nat.le_of_ble_eq_true rfl) ((e _).mpr ?_)
  unfold table_Right_J3 at h
  obtain ⟨q3, h⟩ := bget hx3 h
  refine ⟨s_table_Right_J2 (d + 0) q3, ?_⟩
  refine ⟨fun hb => ?_, fun hb => ?_⟩
  · have h := cond_t hb h
    exact lfe_of h
  · have h := cond_f hb h
    refine ⟨fun hb => ?_, fun hb => ?_⟩
    · have h := cond_t hb h
      exact lfe_of h
    · have h := cond_f hb h
      refine ⟨fun hb => ?_, fun hb => ?_⟩
      · have h := cond_t hb h
        exact lfe_of h
      · have h := cond_f hb h
        exact lfe_of h

def table_Right (o : api_Op) : Option (Bool) :=
  (table_Right_J0 o).bind fun (x1 : Bool) => (table_Right_J3 o x1).bind fun (x4 : Unit ⊕ Unit) => cond (isL x4) (some false) (cond x1 (cond (o.Kind == 4) (some true) (some (o.Old == ([] : List UInt8)))) (cond (o.Value == ([] : List UInt8)) (cond (o.Kind == 4) (some true) (some (o.Old == ([] : List UInt8)))) (some false)))
def out_table_Right (o : api_Op) (r : Bool) : AV × WH := ((.bool r), [])

theorem s_table_Right (d : Nat) {o : api_Op} {r : Bool} (h : table_Right o = some r) : Spec (wcalls atab (d + 1)) 57 [(.agg (e_api_Op o))] [] (out_table_Right o r).1 (out_table_Right o r).2 := by
  obtain ⟨x1, hx1⟩ := wx (table_Right_J0 o)
  obtain ⟨x4, hx4⟩ := wx (table_Right_J3 o x1)
  have e : ∀ C : ACalls, wBody C (fun _ => none) KK WF57 [(.agg (e_api_Op o))] [] (.sk (.jn [1] [none] [] [] .normal [(1, (.ptr (some (0, 0)))), (3, (.bool x1))] [(some (.cells (e_api_Op o) false false))] (.ite (isL x4) (.jn [1, 3] [none, none] [] [] .ret [(2, (.bool false))] [] (.fin (some false) [] none)) (.jn [1, 3] [none, none] [] [] .normal [(1, (.ptr (some (0, 0)))), (3, (.bool x1))] [(some (.cells (e_api_Op o) false false))] (.br 38 (.br 47 (.fin (some false) [] none) (.fin (some false) [] none)) (.br 43 (.br 47 (.fin (some false) [] none) (.fin (some false) [] none)) (.fin (some false) [] none))))))) (out_table_Right o r).1 (out_table_Right o r).2 = (1 = 1 ∧ 1 ≤ 53 ∧ (RunS (bexec C KK 53 WJ57_ba) 0 [(1, (.ptr (some (0, 0))))] [(some (.cells (e_api_Op o) false false))] .normal [(1, (.ptr (some (0, 0)))), (3, (.bool x1))] [(some (.cells (e_api_Op o) false false))] ∧ (((isL x4) = true → (RunS (bexec C KK 53 WJ57_bba) 0 [(1, (.ptr (some (0, 0)))), (3, (.bool x1))] [(some (.cells (e_api_Op o) false false))] .ret [(2, (.bool false))] [] ∧ lff (out_table_Right o) false r)) ∧ ((isL x4) = false → (RunS (bexec C KK 53 WJ57_bba) 0 [(1, (.ptr (some (0, 0)))), (3, (.bool x1))] [(some (.cells (e_api_Op o) false false))] .normal [(1, (.ptr (some (0, 0)))), (3, (.bool x1))] [(some (.cells (e_api_Op o) false false))] ∧ ((x1 = true → (((o.Kind == 4) = true → lff (out_table_Right o) true r) ∧ ((o.Kind == 4) = false → lff (out_table_Right o) (o.Old == ([] : List UInt8)) r))) ∧ (x1 = false → (((o.Value == ([] : List UInt8)) = true → (((o.Kind == 4) = true → lff (out_table_Right o) true r) ∧ ((o.Kind == 4) = false → lff (out_table_Right o) (o.Old == ([] : List UInt8)) r))) ∧ ((o.Value == ([] : List UInt8)) = false → lff (out_table_Right o) false r))))))))) := fun C => by kernel_rfl
  refine spec_of (fun _ _ h => by cases h) rfl atab_57 WF57_ok ((e _).mpr ⟨rfl, by decide, ?_⟩)
  unfold table_Right at h
  obtain ⟨q1, h⟩ := bget hx1 h
  refine ⟨s_table_Right_J0 (d + 0) q1, ?_⟩
  obtain ⟨q4, h⟩ := bget hx4 h
  refine ⟨fun hb5 => ?_, fun hb5 => ?_⟩
  · have h := cond_t hb5 h
    refine ⟨by have h := s_table_Right_J3 (d + 0) q4; rw [isL_t hb5] at h; exact h, ?_⟩
    exact lff_of h
  · have h := cond_f hb5 h
    refine ⟨by have h := s_table_Right_J3 (d + 0) q4; rw [isL_f hb5] at h; exact h, ?_⟩
    refine ⟨fun hb => ?_, fun hb => ?_⟩
    · have h := cond_t hb h
      refine ⟨fun hb => ?_, fun hb => ?_⟩
      · have h := cond_t hb h
        exact lff_of h
      · have h := cond_f hb h
        exact lff_of h
    · have h := cond_f hb h
      refine ⟨fun hb => ?_, fun hb => ?_⟩
      · have h := cond_t hb h
        refine ⟨fun hb => ?_, fun hb => ?_⟩
        · have h := cond_t hb h
          exact lff_of h
        · have h := cond_f hb h
          exact lff_of h
      · have h := cond_f hb h
        exact lff_of h

/- cmp.isNaN[string] -/
def cmp_isNaN_string (a0 : List UInt8) : Option (Bool) :=
  some (!(a0 == a0))
def out_cmp_isNaN_string (a0 : List UInt8) (r : Bool) : AV × WH := ((.bool r), [])

theorem s_cmp_isNaN_string (d : Nat) {a0 : List UInt8} {r : Bool} (h : cmp_isNaN_string a0 = some r) : Spec (wcalls atab (d + 1)) 136 [(.str a0)] [] (out_cmp_isNaN_string a0 r).1 (out_cmp_isNaN_string a0 r).2 := by
  have e : ∀ C : ACalls, wBody C (fun _ => none) KK WF136 [(.str a0)] [] (.fin (some false) [] none) (out_cmp_isNaN_string a0 r).1 (out_cmp_isNaN_string a0 r).2 = (1 = 1 ∧ 1 ≤ 6 ∧ lff (out_cmp_isNaN_string a0) (!(a0 == a0)) r) := fun C => by kernel_rfl
  refine spec_of (fun _ _ h => by cases h) rfl atab_136 WF136_ok ((e _).mpr ⟨rfl, by decide, ?_⟩)
  unfold cmp_isNaN_string at h
  exact lff_of h

/- cmp.Compare[string] -/
def cmp_Compare_string (a0 : List UInt8) (a1 : List UInt8) : Option (Int) :=
  (cmp_isNaN_string a0).bind fun (x1 : Bool) => (cmp_isNaN_string a1).bind fun (x2 : Bool) => cond x1 (cond x2 (some 0) (some (-1))) (cond x2 (some 1) (cond (Op.bytesLess a0 a1) (some (-1)) (cond (!(Op.bytesLess a0 a1 || a0 == a1)) (some 1) (some 0))))
def out_cmp_Compare_string (a0 : List UInt8) (a1 : List UInt8) (r : Int) : AV × WH := ((.int .i64 r), [])

theorem s_cmp_Compare_string (d : Nat) {a0 : List UInt8} {a1 : List UInt8} {r : Int} (h : cmp_Compare_string a0 a1 = some r) : Spec (wcalls atab (d + 2)) 128 [(.str a0), (.str a1)] [] (out_cmp_Compare_string a0 a1 r).1 (out_cmp_Compare_string a0 a1 r).2 := by
  obtain ⟨x1, hx1⟩ := wx (cmp_isNaN_string a0)
  obtain ⟨x2, hx2⟩ := wx (cmp_isNaN_string a1)
  have e : ∀ C : ACalls, wBody C (fun _ => none) KK WF128 [(.str a0), (.str a1)] [] (.cb [] [] (.bool x1) (.cb [] [] (.bool x2) (.br 11 (.br 12 (.fin (some false) [] none) (.fin (some false) [] none)) (.br 13 (.fin (some false) [] none) (.br 16 (.fin (some false) [] none) (.br 19 (.fin (some false) [] none) (.fin (some false) [] none))))))) (out_cmp_Compare_string a0 a1 r).1 (out_cmp_Compare_string a0 a1 r).2 = (2 = 2 ∧ 2 ≤ 20 ∧ (Spec C 136 [(.str a0)] [] (.bool x1) [] ∧ (Spec C 136 [(.str a1)] [] (.bool x2) [] ∧ ((x1 = true → ((x2 = true → lff (out_cmp_Compare_string a0 a1) 0 r) ∧ (x2 = false → lff (out_cmp_Compare_string a0 a1) (-1) r))) ∧ (x1 = false → ((x2 = true → lff (out_cmp_Compare_string a0 a1) 1 r) ∧ (x2 = false → (((Op.bytesLess a0 a1) = true → lff (out_cmp_Compare_string a0 a1) (-1) r) ∧ ((Op.bytesLess a0 a1) = false → (((!(Op.bytesLess a0 a1 || a0 == a1)) = true → lff (out_cmp_Compare_string a0 a1) 1 r) ∧ ((!(Op.bytesLess a0 a1 || a0 == a1)) = false → lff (out_cmp_Compare_string a0 a1) 0 r))))))))))) := fun C => by kernel_rfl
  refine spec_of (fun _ _ h => by cases h) rfl atab_128 WF128_ok ((e _).mpr ⟨rfl, by decide, ?_⟩)
  unfold cmp_Compare_string at h
  obtain ⟨q1, h⟩ := bget hx1 h
  refine ⟨s_cmp_isNaN_string (d + 0) q1, ?_⟩
  obtain ⟨q2, h⟩ := bget hx2 h
  refine ⟨s_cmp_isNaN_string (d + 0) q2, ?_⟩
  refine ⟨fun hb => ?_, fun hb => ?_⟩
  · have h := cond_t hb h
    refine ⟨fun hb => ?_, fun hb => ?_⟩
    · have h := cond_t hb h
      exact lff_of h
    · have h := cond_f hb h
      exact lff_of h
  · have h := cond_f hb h
    refine ⟨fun hb => ?_, fun hb => ?_⟩
    · have h := cond_t hb h
      exact lff_of h
    · have h := cond_f hb h
      refine ⟨fun hb => ?_, fun hb => ?_⟩
      · have h := cond_t hb h
        exact lff_of h
      · have h := cond_f hb h
        refine ⟨fun hb => ?_, fun hb => ?_⟩
        · have h := cond_t hb h
          exact lff_of h
        · have h := cond_f hb h
          exact lff_of h

/- (*osmosis/table.Table).find$1 -/
def table_Table_find_1 (p : api_Pair) (key : List UInt8) : Option (Int) :=
  (cmp_Compare_string p.Key key).bind fun (x1 : Int) => some x1
def out_table_Table_find_1 (p : api_Pair) (key : List UInt8) (r : Int) : AV × WH := ((.int .i64 r), [])

theorem s_table_Table_find_1 (d : Nat) {p : api_Pair} {key : List UInt8} {r : Int} (h : table_Table_find_1 p key = some r) : Spec (wcalls atab (d + 3)) 127 [(.agg (e_api_Pair p)), (.str key)] [] (out_table_Table_find_1 p key r).1 (out_table_Table_find_1 p key r).2 := by
  obtain ⟨x1, hx1⟩ := wx (cmp_Compare_string p.Key key)
  have e : ∀ C : ACalls, wBody C (fun _ => none) KK WF127 [(.agg (e_api_Pair p)), (.str key)] [] (.cb [] [] (.int .i64 x1) (.fin (some false) [] none)) (out_table_Table_find_1 p key r).1 (out_table_Table_find_1 p key r).2 = (2 = 2 ∧ 2 ≤ 9 ∧ (Spec C 128 [(.str p.Key), (.str key)] [] (.int .i64 x1) [] ∧ lff (out_table_Table_find_1 p key) x1 r)) := fun C => by kernel_rfl
  refine spec_of (fun _ _ h => by cases h) rfl atab_127 WF127_ok ((e _).mpr ⟨rfl, by decide, ?_⟩)
  unfold table_Table_find_1 at h
  obtain ⟨q1, h⟩ := bget hx1 h
  refine ⟨s_cmp_Compare_string (d + 0) q1, ?_⟩
  exact lff_of h

/- slices.BinarySearchFunc[[]osmosis/api.Pair,osmosis/api.Pair,string] -/
def st_slices_BinarySearchFunc_api_Pair_api_Pair_string_L0 (a0 : List api_Pair) (a1 : List UInt8) (s3 : Int × Int) : List AV × WH := ([(l_api_Pair a0), (.str a1), (.func 127 []), (.int .i64 (a0.length : Int)), (.int .i64 s3.1), (.int .i64 s3.2)], [])
def fin_slices_BinarySearchFunc_api_Pair_api_Pair_string_L0 (a0 : List api_Pair) (a1 : List UInt8) : Int → Ex × Fast × WH := fun e => ((.exit 0), [(0, (l_api_Pair a0)), (1, (.str a1)), (2, (.func 127 [])), (8, (.int .i64 (a0.length : Int))), (9, (.int .i64 e))], [])
abbrev rx_slices_BinarySearchFunc_api_Pair_api_Pair_string_L0 (a0 : List api_Pair) (a1 : List UInt8) := roundX [0, 1, 2, 8, 9, 10] (st_slices_BinarySearchFunc_api_Pair_api_Pair_string_L0 a0 a1) (fin_slices_BinarySearchFunc_api_Pair_api_Pair_string_L0 a0 a1)
def slices_BinarySearchFunc_api_Pair_api_Pair_string_L0_s (a0 : List api_Pair) (a1 : List UInt8) (s3 : Int × Int) : Option ((Int × Int) ⊕ (Int)) :=
  cond (decide (s3.1 < s3.2)) ((getI a0 (IntKind.i64.wrap (shrV .u64 (IntKind.u64.wrap (IntKind.i64.wrap (s3.1 + s3.2))) 1))).bind fun (x4 : api_Pair) => (table_Table_find_1 x4 a1).bind fun (x5 : Int) => cond (decide (x5 < 0)) (some (.inl ((IntKind.i64.wrap ((IntKind.i64.wrap (shrV .u64 (IntKind.u64.wrap (IntKind.i64.wrap (s3.1 + s3.2))) 1)) + 1)), s3.2))) (some (.inl (s3.1, (IntKind.i64.wrap (shrV .u64 (IntKind.u64.wrap (IntKind.i64.wrap (s3.1 + s3.2))) 1)))))) (some (.inr s3.1))
def slices_BinarySearchFunc_api_Pair_api_Pair_string_L0 (a0 : List api_Pair) (a1 : List UInt8) (s3 : Int × Int) : Option (Int) := loopX (slices_BinarySearchFunc_api_Pair_api_Pair_string_L0_s a0 a1) KK s3
theorem b_slices_BinarySearchFunc_api_Pair_api_Pair_string_L0 (d : Nat) {a0 : List api_Pair} {a1 : List UInt8} {s3 : Int × Int} {r : (Int × Int) ⊕ (Int)} (h : slices_BinarySearchFunc_api_Pair_api_Pair_string_L0_s a0 a1 s3 = some r) : RunX (bexec (wcalls atab (d + 3)) KK 49 WB126_0) 0 (inL [0, 1, 2, 8, 9, 10] (st_slices_BinarySearchFunc_api_Pair_api_Pair_string_L0 a0 a1 s3)) (rx_slices_BinarySearchFunc_api_Pair_api_Pair_string_L0 a0 a1 r) := by
  obtain ⟨x4, hx4⟩ := wx (getI a0 (IntKind.i64.wrap (shrV .u64 (IntKind.u64.wrap (IntKind.i64.wrap (s3.1 + s3.2))) 1)))
  obtain ⟨x5, hx5⟩ := wx (table_Table_find_1 x4 a1)
  have e : ∀ C : ACalls, wCode C (fun _ => none) KK 49 0 WB126_0 (inL [0, 1, 2, 8, 9, 10] (st_slices_BinarySearchFunc_api_Pair_api_Pair_string_L0 a0 a1 s3)).1 (inL [0, 1, 2, 8, 9, 10] (st_slices_BinarySearchFunc_api_Pair_api_Pair_string_L0 a0 a1 s3)).2 (.br 17 (.v 27 (.elem ((e_api_Pair x4) ++ F_api_Pair (a0.drop ((IntKind.i64.wrap (shrV .u64 (IntKind.u64.wrap (IntKind.i64.wrap (s3.1 + s3.2))) 1)).toNat + 1)))) (.cb [] [] (.int .i64 x5) (.br 31 (.en [0, 1, 2, 8, 9, 10] [none, none, none, none, none, none] [] [.slice none 2 0 0 true, .undef, .undef, .undef, .undef, .undef]) (.en [0, 1, 2, 8, 9, 10] [none, none, none, none, none, none] [] [.slice none 2 0 0 true, .undef, .undef, .undef, .undef, .undef])))) (.en [0, 1, 2, 8, 9] [none, none, none, none, none] [] [.slice none 2 0 0 true, .undef, .undef, .undef, .undef])) (rx_slices_BinarySearchFunc_api_Pair_api_Pair_string_L0 a0 a1 r) = (((decide (s3.1 < s3.2)) = true → (wP (.idxSlice 2 (.c (l_api_Pair a0)) (.c (.int .i64 (IntKind.i64.wrap (shrV .u64 (IntKind.u64.wrap (IntKind.i64.wrap (s3.1 + s3.2))) 1))))) = some (.elem ((e_api_Pair x4) ++ F_api_Pair (a0.drop ((IntKind.i64.wrap (shrV .u64 (IntKind.u64.wrap (IntKind.i64.wrap (s3.1 + s3.2))) 1)).toNat + 1)))) ∧ (Spec C 127 [(.agg (e_api_Pair x4)), (.str a1)] [] (.int .i64 x5) [] ∧ (((decide (x5 < 0)) = true → lfe (rx_slices_BinarySearchFunc_api_Pair_api_Pair_string_L0 a0 a1) (.inl ((IntKind.i64.wrap ((IntKind.i64.wrap (shrV .u64 (IntKind.u64.wrap (IntKind.i64.wrap (s3.1 + s3.2))) 1)) + 1)), s3.2)) r) ∧ ((decide (x5 < 0)) = false → lfe (rx_slices_BinarySearchFunc_api_Pair_api_Pair_string_L0 a0 a1) (.inl (s3.1, (IntKind.i64.wrap (shrV .u64 (IntKind.u64.wrap (IntKind.i64.wrap (s3.1 + s3.2))) 1)))) r))))) ∧ ((decide (s3.1 < s3.2)) = false → lfe (rx_slices_BinarySearchFunc_api_Pair_api_Pair_string_L0 a0 a1) (.inr s3.1) r)) := fun C => by kernel_rfl
  refine runS_of (fun _ _ h => by cases h) WB126_0_ok (Nat.le_of_ble_eq_true rfl) ((e _).mpr ?_)
  unfold slices_BinarySearchFunc_api_Pair_api_Pair_string_L0_s at h
  refine ⟨fun hb => ?_, fun hb => ?_⟩
  · have h := cond_t hb h
    obtain ⟨q4, h⟩ := bget hx4 h
    refine ⟨wP_idx R_api_Pair q4, ?_⟩
    obtain ⟨q5, h⟩ := bget hx5 h
    refine ⟨s_table_Table_find_1 (d + 0) q5, ?_⟩
    refine ⟨fun hb => ?_, fun hb => ?_⟩
    · have h := cond_t hb h
      exact lfe_of h
    · have h := cond_f hb h
      exact lfe_of h
  · have h := cond_f hb h
    exact lfe_of h
theorem s_slices_BinarySearchFunc_api_Pair_api_Pair_string_L0 (d : Nat) {a0 : List api_Pair} {a1 : List UInt8} {s3 : Int × Int} {r : Int} (h : slices_BinarySearchFunc_api_Pair_api_Pair_string_L0 a0 a1 s3 = some r) : RunX (bloop (bexec (wcalls atab (d + 3)) KK 49 WB126_0) [0, 1, 2, 8, 9, 10] KK) 0 (inL [0, 1, 2, 8, 9, 10] (st_slices_BinarySearchFunc_api_Pair_api_Pair_string_L0 a0 a1 s3)) (fin_slices_BinarySearchFunc_api_Pair_api_Pair_string_L0 a0 a1 r) :=
  loop_of (st := st_slices_BinarySearchFunc_api_Pair_api_Pair_string_L0 a0 a1) (fin := fin_slices_BinarySearchFunc_api_Pair_api_Pair_string_L0 a0 a1) (step := slices_BinarySearchFunc_api_Pair_api_Pair_string_L0_s a0 a1) (fun e => by (intro h; cases h)) (fun s x h => b_slices_BinarySearchFunc_api_Pair_api_Pair_string_L0 d h) KK s3 r h

def slices_BinarySearchFunc_api_Pair_api_Pair_string (a0 : List api_Pair) (a1 : List UInt8) : Option (Int × Bool) :=
  (slices_BinarySearchFunc_api_Pair_api_Pair_string_L0 a0 a1 (0, (a0.length : Int))).bind fun (x6 : Int) => cond (decide (x6 < (a0.length : Int))) ((getI a0 x6).bind fun (x7 : api_Pair) => (table_Table_find_1 x7 a1).bind fun (x8 : Int) => some (x6, (x8 == 0))) (some (x6, false))
def out_slices_BinarySearchFunc_api_Pair_api_Pair_string (a0 : List api_Pair) (a1 : List UInt8) (r : Int × Bool) : AV × WH := ((.tuple [(.int .i64 r.1), (.bool r.2)]), [])

theorem s_slices_BinarySearchFunc_api_Pair_api_Pair_string (d : Nat) {a0 : List api_Pair} {a1 : List UInt8} {r : Int × Bool} (h : slices_BinarySearchFunc_api_Pair_api_Pair_string a0 a1 = some r) : Spec (wcalls atab (d + 4)) 126 [(l_api_Pair a0), (.str a1), (.func 127 [])] [] (out_slices_BinarySearchFunc_api_Pair_api_Pair_string a0 a1 r).1 (out_slices_BinarySearchFunc_api_Pair_api_Pair_string a0 a1 r).2 := by
  obtain ⟨x6, hx6⟩ := wx (slices_BinarySearchFunc_api_Pair_api_Pair_string_L0 a0 a1 (0, (a0.length : Int)))
  obtain ⟨x7, hx7⟩ := wx (getI a0 x6)
  obtain ⟨x8, hx8⟩ := wx (table_Table_find_1 x7 a1)
  have e : ∀ C : ACalls, wBody C (fun _ => none) KK WF126 [(l_api_Pair a0), (.str a1), (.func 127 [])] [] (.lp [none, none, none, none, none, none] [] [.slice none 2 0 0 true, .undef, .undef, .undef, .undef, .undef] (.exit 0) [(0, (l_api_Pair a0)), (1, (.str a1)), (2, (.func 127 [])), (8, (.int .i64 (a0.length : Int))), (9, (.int .i64 x6))] [] (.br 39 (.v 43 (.elem ((e_api_Pair x7) ++ F_api_Pair (a0.drop (x6.toNat + 1)))) (.cb [] [] (.int .i64 x8) (.fin (some false) [] none))) (.fin (some false) [] none))) (out_slices_BinarySearchFunc_api_Pair_api_Pair_string a0 a1 r).1 (out_slices_BinarySearchFunc_api_Pair_api_Pair_string a0 a1 r).2 = (3 = 3 ∧ 3 ≤ 49 ∧ (RunS (bloop (bexec C KK 49 WB126_0) [0, 1, 2, 8, 9, 10] KK) 0 [(0, (l_api_Pair a0)), (1, (.str a1)), (2, (.func 127 [])), (8, (.int .i64 (a0.length : Int))), (9, (.int .i64 0)), (10, (.int .i64 (a0.length : Int)))] [] (.exit 0) [(0, (l_api_Pair a0)), (1, (.str a1)), (2, (.func 127 [])), (8, (.int .i64 (a0.length : Int))), (9, (.int .i64 x6))] [] ∧ (((decide (x6 < (a0.length : Int))) = true → (wP (.idxSlice 2 (.c (l_api_Pair a0)) (.c (.int .i64 x6))) = some (.elem ((e_api_Pair x7) ++ F_api_Pair (a0.drop (x6.toNat + 1)))) ∧ (Spec C 127 [(.agg (e_api_Pair x7)), (.str a1)] [] (.int .i64 x8) [] ∧ lff (out_slices_BinarySearchFunc_api_Pair_api_Pair_string a0 a1) (x6, (x8 == 0)) r))) ∧ ((decide (x6 < (a0.length : Int))) = false → lff (out_slices_BinarySearchFunc_api_Pair_api_Pair_string a0 a1) (x6, false) r)))) := fun C => by kernel_rfl
  refine spec_of (fun _ _ h => by cases h) rfl atab_126 WF126_ok ((e _).mpr ⟨rfl, by decide, ?_⟩)
  unfold slices_BinarySearchFunc_api_Pair_api_Pair_string at h
  obtain ⟨q6, h⟩ := bget hx6 h
  refine ⟨s_slices_BinarySearchFunc_api_Pair_api_Pair_string_L0 (d + 0) q6, ?_⟩
  refine ⟨fun hb => ?_, fun hb => ?_⟩
  · have h := cond_t hb h
    obtain ⟨q7, h⟩ := bget hx7 h
    refine ⟨wP_idx R_api_Pair q7, ?_⟩
    obtain ⟨q8, h⟩ := bget hx8 h
    refine ⟨s_table_Table_find_1 (d + 0) q8, ?_⟩
    exact lff_of h
  · have h := cond_f hb h
    exact lff_of h

/- (*osmosis/table.Table).find -/
def table_Table_find (key : List UInt8) : Option (Int × Bool) :=
  (slices_BinarySearchFunc_api_Pair_api_Pair_string [] key).bind fun (x1 : Int × Bool) => some (x1.1, x1.2)
def out_table_Table_find (key : List UInt8) (r : Int × Bool) : AV × WH := ((.tuple [(.int .i64 r.1), (.bool r.2)]), [(some (.cells [(.slice none 2 0 0 true)] false false))])

theorem s_table_Table_find (d : Nat) {key : List UInt8} {r : Int × Bool} (h : table_Table_find key = some r) : Spec (wcalls atab (d + 5)) 96 [(.ptr (some (0, 0))), (.str key)] [(some (.cells [(.slice none 2 0 0 true)] false false))] (out_table_Table_find key r).1 (out_table_Table_find key r).2 := by
  obtain ⟨x1, hx1⟩ := wx (slices_BinarySearchFunc_api_Pair_api_Pair_string [] key)
  have e : ∀ C : ACalls, wBody C (fun _ => none) KK WF96 [(.ptr (some (0, 0))), (.str key)] [(some (.cells [(.slice none 2 0 0 true)] false false))] (.cb [] [.slice none 2 0 0 true] (.tuple [(.int .i64 x1.1), (.bool x1.2)]) (.fin (some false) [] none)) (out_table_Table_find key r).1 (out_table_Table_find key r).2 = (2 = 2 ∧ 2 ≤ 14 ∧ (Spec C 126 [(l_api_Pair []), (.str key), (.func 127 [])] [] (.tuple [(.int .i64 x1.1), (.bool x1.2)]) [] ∧ lff (out_table_Table_find key) (x1.1, x1.2) r)) := fun C => by kernel_rfl
  refine spec_of (fun _ _ h => by cases h) rfl atab_96 WF96_ok ((e _).mpr ⟨rfl, by decide, ?_⟩)
  unfold table_Table_find at h
  obtain ⟨q1, h⟩ := bget hx1 h
  refine ⟨s_slices_BinarySearchFunc_api_Pair_api_Pair_string (d + 0) q1, ?_⟩
  exact lff_of h

/- (*osmosis/table.Table).set -/
def table_Table_set (k : Int) (value : List UInt8) : Option (List api_Pair) :=
  gd (fitsB 32 0) ((getI ([] : List api_Pair) k).bind fun (x2 : api_Pair) => some (([] : List api_Pair).set k.toNat (⟨x2.Key, value⟩ : api_Pair)))
def out_table_Table_set (k : Int) (value : List UInt8) (r : List api_Pair) : AV × WH := ((.tuple []), [(some (.cells [(.acc 1 0 2 r.length true)] false false)), (some (.cells (F_api_Pair r) false true))])

theorem s_table_Table_set (d : Nat) {k : Int} {value : List UInt8} {r : List api_Pair} (h : table_Table_set k value = some r) : Spec (wcalls atab (d + 2)) 129 [(.ptr (some (0, 0))), (.int .i64 k), (.str value)] [(some (.cells [(.slice none 2 0 0 true)] false false))] (out_table_Table_set k value r).1 (out_table_Table_set k value r).2 := by
  obtain ⟨x2, hx2⟩ := wx (getI ([] : List api_Pair) k)
  have e : ∀ C : ACalls, wBody C wB KK WF129 [(.ptr (some (0, 0))), (.int .i64 k), (.str value)] [(some (.cells [(.slice none 2 0 0 true)] false false))] (.st none (.v 20 (.ptr (some (1, 0 + k.toNat * 2))) (.st (some (F_api_Pair (([] : List api_Pair).set k.toNat (⟨x2.Key, value⟩ : api_Pair)))) (.fin (some false) [] none)))) (out_table_Table_set k value r).1 (out_table_Table_set k value r).2 = (3 = 3 ∧ 3 ≤ 22 ∧ (fitsB 32 0 = true ∧ (wP (.idxSlice 2 (.c (.acc 1 0 2 0 true)) (.c (.int .i64 k))) = some (.ptr (some (1, 0 + k.toNat * 2))) ∧ (wrC (F_api_Pair ([] : List api_Pair)) (0 + k.toNat * 2 + 1) [(.str value)] = some (F_api_Pair (([] : List api_Pair).set k.toNat (⟨x2.Key, value⟩ : api_Pair))) ∧ (@Eq AV (.tuple []) (out_table_Table_set k value r).1 ∧ @Eq WH [(some (.cells [(.acc 1 0 2 0 true)] false false)), (some (.cells (F_api_Pair (([] : List api_Pair).set k.toNat (⟨x2.Key, value⟩ : api_Pair))) false true))] (out_table_Table_set k value r).2))))) := fun C => by kernel_rfl
  refine spec_of (wB_ok _) rfl atab_129 WF129_ok ((e _).mpr ⟨rfl, by decide, ?_⟩)
  unfold table_Table_set at h
  obtain ⟨q1, h⟩ := gd_some h
  refine ⟨q1, ?_⟩
  obtain ⟨q2, h⟩ := bget hx2 h
  refine ⟨wP_idxA R_api_Pair q2, ?_⟩
  refine ⟨wr_row (o := 1) R_api_Pair q2 rfl, ?_⟩
  try rw [show AV.list 2 ([] : List api_Pair).length (F_api_Pair (([] : List api_Pair).set k.toNat (⟨x2.Key, value⟩ : api_Pair))) false = l_api_Pair (([] : List api_Pair).set k.toNat (⟨x2.Key, value⟩ : api_Pair)) from by simp only [l_api_Pair, List.length_set]]
  obtain rfl := Option.some.inj h
  refine ⟨?_, ?_⟩ <;> first | rfl | (simp only [out_table_Table_set, List.length_set, List.length_append, List.length_replicate, List.length_cons, List.length_nil, List.length_take, List.length_drop, Nat.add_zero, Nat.zero_add]; done) | simp [out_table_Table_set]

/- (*osmosis/table.Table).put -/
def table_Table_put (o : api_Op) (k : Int) (had : Bool) : Option (api_Answer × List api_Pair) :=
  cond had ((table_Table_set k o.Value).bind fun (x1 : List api_Pair) => some ((⟨0, ([] : List UInt8)⟩ : api_Answer), x1)) (gd (fitsB 32 0) (gd (insB 32 k 0) (some ((⟨0, ([] : List UInt8)⟩ : api_Answer), (insL ([] : List api_Pair) k (⟨o.Key, o.Value⟩ : api_Pair))))))
def out_table_Table_put (o : api_Op) (k : Int) (had : Bool) (r : api_Answer × List api_Pair) : AV × WH := ((.agg (e_api_Answer r.1)), [(some (.cells [(.acc 1 0 2 r.2.length true)] false false)), (some (.cells (F_api_Pair r.2) false true))])

theorem s_table_Table_put (d : Nat) {o : api_Op} {k : Int} {had : Bool} {r : api_Answer × List api_Pair} (h : table_Table_put o k had = some r) : Spec (wcalls atab (d + 3)) 97 [(.ptr (some (0, 0))), (.agg (e_api_Op o)), (.int .i64 k), (.bool had)] [(some (.cells [(.slice none 2 0 0 true)] false false))] (out_table_Table_put o k had r).1 (out_table_Table_put o k had r).2 := by
  obtain ⟨x1, hx1⟩ := wx (table_Table_set k o.Value)
  have e : ∀ C : ACalls, wBody C wB KK WF97 [(.ptr (some (0, 0))), (.agg (e_api_Op o)), (.int .i64 k), (.bool had)] [(some (.cells [(.slice none 2 0 0 true)] false false))] (.br 25 (.call [] none [] (.tuple []) [(some (.cells [(.acc 1 0 2 x1.length true)] false false)), (some (.cells (F_api_Pair x1) false true))] (.st none (.fin (some false) [] none))) (.ap 22 (insL ([] : List api_Pair) k (⟨o.Key, o.Value⟩ : api_Pair)).length (F_api_Pair (insL ([] : List api_Pair) k (⟨o.Key, o.Value⟩ : api_Pair))) (.st none (.st none (.fin (some false) [] none))))) (out_table_Table_put o k had r).1 (out_table_Table_put o k had r).2 = (4 = 4 ∧ 4 ≤ 41 ∧ ((had = true → (Spec C 129 [(.ptr (some (0, 0))), (.int .i64 k), (.str o.Value)] [(some (.cells [(.slice none 2 0 0 true)] false false))] (.tuple []) [(some (.cells [(.acc 1 0 2 x1.length true)] false false)), (some (.cells (F_api_Pair x1) false true))] ∧ (1 ≤ 2 ∧ lff (out_table_Table_put o k had) ((⟨0, ([] : List UInt8)⟩ : api_Answer), x1) r))) ∧ (had = false → (fitsB 32 0 = true ∧ ((0 ≤ k ∧ k ≤ ((0 : Nat) : Int)) ∧ (0 + 1 = (insL ([] : List api_Pair) k (⟨o.Key, o.Value⟩ : api_Pair)).length ∧ ((F_api_Pair ([] : List api_Pair)).take (k.toNat * 2) ++ ([(.str o.Key), (.str o.Value)] ++ (F_api_Pair ([] : List api_Pair)).drop (k.toNat * 2)) = F_api_Pair (insL ([] : List api_Pair) k (⟨o.Key, o.Value⟩ : api_Pair)) ∧ (fitsB 32 (insL ([] : List api_Pair) k (⟨o.Key, o.Value⟩ : api_Pair)).length = true ∧ lff (out_table_Table_put o k had) ((⟨0, ([] : List UInt8)⟩ : api_Answer), (insL ([] : List api_Pair) k (⟨o.Key, o.Value⟩ : api_Pair))) r)))))))) := fun C => by kernel_rfl
  refine spec_of (wB_ok _) rfl atab_97 WF97_ok ((e _).mpr ⟨rfl, by decide, ?_⟩)
  unfold table_Table_put at h
  refine ⟨fun hb => ?_, fun hb => ?_⟩
  · have h := cond_t hb h
    obtain ⟨q1, h⟩ := bget hx1 h
    refine ⟨s_table_Table_set (d + 0) q1, ?_⟩
    refine ⟨by decide, ?_⟩
    exact lff_of h
  · have h := cond_f hb h
    obtain ⟨q2, h⟩ := gd_some h
    refine ⟨q2, ?_⟩
    obtain ⟨q3, h⟩ := gd_some h
    refine ⟨insB_1 q3, ?_⟩
    refine ⟨insB_2 (l := ([] : List api_Pair)) q3, ?_⟩
    refine ⟨ins_row R_api_Pair rfl, ?_⟩
    refine ⟨insB_3 (l := ([] : List api_Pair)) q3, ?_⟩
    exact lff_of h

/- (*osmosis/table.Table).set -/
def table_Table_set_2 (k : Int) (value : List UInt8) (p_b1 : List api_Pair) : Option (List api_Pair) :=
  gd (fitsB 32 p_b1.length) ((getI p_b1 k).bind fun (x2 : api_Pair) => some (p_b1.set k.toNat (⟨x2.Key, value⟩ : api_Pair)))
def out_table_Table_set_2 (k : Int) (value : List UInt8) (p_b1 : List api_Pair) (r : List api_Pair) : AV × WH := ((.tuple []), [(some (.cells [(.acc 2 0 2 r.length true)] false false)), (some (.cells (F_api_Pair p_b1) false true)), (some (.cells (F_api_Pair r) false true))])

theorem s_table_Table_set_2 (d : Nat) {k : Int} {value : List UInt8} {p_b1 : List api_Pair} {r : List api_Pair} (h : table_Table_set_2 k value p_b1 = some r) : Spec (wcalls atab (d + 2)) 129 [(.ptr (some (0, 0))), (.int .i64 k), (.str value)] [(some (.cells [(.acc 1 0 2 p_b1.length true)] false false)), (some (.cells (F_api_Pair p_b1) false true))] (out_table_Table_set_2 k value p_b1 r).1 (out_table_Table_set_2 k value p_b1 r).2 := by
  obtain ⟨x2, hx2⟩ := wx (getI p_b1 k)
  have e : ∀ C : ACalls, wBody C wB KK WF129 [(.ptr (some (0, 0))), (.int .i64 k), (.str value)] [(some (.cells [(.acc 1 0 2 p_b1.length true)] false false)), (some (.cells (F_api_Pair p_b1) false true))] (.st none (.v 20 (.ptr (some (2, 0 + k.toNat * 2))) (.st (some (F_api_Pair (p_b1.set k.toNat (⟨x2.Key, value⟩ : api_Pair)))) (.fin (some false) [] none)))) (out_table_Table_set_2 k value p_b1 r).1 (out_table_Table_set_2 k value p_b1 r).2 = (3 = 3 ∧ 3 ≤ 22 ∧ (fitsB 32 p_b1.length = true ∧ (wP (.idxSlice 2 (.c (.acc 2 0 2 p_b1.length true)) (.c (.int .i64 k))) = some (.ptr (some (2, 0 + k.toNat * 2))) ∧ (wrC (F_api_Pair p_b1) (0 + k.toNat * 2 + 1) [(.str value)] = some (F_api_Pair (p_b1.set k.toNat (⟨x2.Key, value⟩ : api_Pair))) ∧ (@Eq AV (.tuple []) (out_table_Table_set_2 k value p_b1 r).1 ∧ @Eq WH [(some (.cells [(.acc 2 0 2 p_b1.length true)] false false)), (some (.cells (F_api_Pair p_b1) false true)), (some (.cells (F_api_Pair (p_b1.set k.toNat (⟨x2.Key, value⟩ : api_Pair))) false true))] (out_table_Table_set_2 k value p_b1 r).2))))) := fun C => by kernel_rfl
  refine spec_of (wB_ok _) rfl atab_129 WF129_ok ((e _).mpr ⟨rfl, by decide, ?_⟩)
  unfold table_Table_set_2 at h
  obtain ⟨q1, h⟩ := gd_some h
  refine ⟨q1, ?_⟩
  obtain ⟨q2, h⟩ := bget hx2 h
  refine ⟨wP_idxA R_api_Pair q2, ?_⟩
  refine ⟨wr_row (o := 1) R_api_Pair q2 rfl, ?_⟩
  try rw [show AV.list 2 p_b1.length (F_api_Pair (p_b1.set k.toNat (⟨x2.Key, value⟩ : api_Pair))) false = l_api_Pair (p_b1.set k.toNat (⟨x2.Key, value⟩ : api_Pair)) from by simp only [l_api_Pair, List.length_set]]
  obtain rfl := Option.some.inj h
  refine ⟨?_, ?_⟩ <;> first | rfl | (simp only [out_table_Table_set_2, List.length_set, List.length_append, List.length_replicate, List.length_cons, List.length_nil, List.length_take, List.length_drop, Nat.add_zero, Nat.zero_add]; done) | simp [out_table_Table_set_2]

/- (*osmosis/table.Table).cas -/
def table_Table_cas_2 (o : api_Op) (k : Int) (p_b1 : List api_Pair) : Option (api_Answer × List api_Pair) :=
  (getI p_b1 k).bind fun (x1 : api_Pair) => cond (!(x1.Value == o.Old)) (some ((⟨6, x1.Value⟩ : api_Answer), p_b1)) ((table_Table_set_2 k o.Value p_b1).bind fun (x2 : List api_Pair) => some ((⟨0, ([] : List UInt8)⟩ : api_Answer), x2))
def out_table_Table_cas_2 (o : api_Op) (k : Int) (p_b1 : List api_Pair) (r : api_Answer × List api_Pair) : AV × WH := ((.agg (e_api_Answer r.1)), [(some (.cells [(.acc 2 0 2 r.2.length true)] false false)), none, (some (.cells (F_api_Pair r.2) false true))])

theorem s_table_Table_cas_2 (d : Nat) {o : api_Op} {k : Int} {p_b1 : List api_Pair} {r : api_Answer × List api_Pair} (h : table_Table_cas_2 o k p_b1 = some r) : Spec (wcalls atab (d + 3)) 98 [(.ptr (some (0, 0))), (.agg (e_api_Op o)), (.int .i64 k)] [(some (.cells [(.acc 1 0 2 p_b1.length true)] false false)), (some (.cells (F_api_Pair p_b1) false true))] (out_table_Table_cas_2 o k p_b1 r).1 (out_table_Table_cas_2 o k p_b1 r).2 := by
  obtain ⟨x1, hx1⟩ := wx (getI p_b1 k)
  obtain ⟨x2, hx2⟩ := wx (table_Table_set_2 k o.Value p_b1)
  have e : ∀ C : ACalls, wBody C (fun _ => none) KK WF98 [(.ptr (some (0, 0))), (.agg (e_api_Op o)), (.int .i64 k)] [(some (.cells [(.acc 1 0 2 p_b1.length true)] false false)), (some (.cells (F_api_Pair p_b1) false true))] (.v 13 (.ptr (some (1, 0 + k.toNat * 2))) (.v 15 (.str x1.Value) (.br 19 (.st none (.fin (some false) [] (some true))) (.call [] none [] (.tuple []) [(some (.cells [(.acc 2 0 2 x2.length true)] false false)), (some (.cells (F_api_Pair p_b1) false true)), (some (.cells (F_api_Pair x2) false true))] (.st none (.kl [1] (.fin (some false) [] (some true)))))))) (out_table_Table_cas_2 o k p_b1 r).1 (out_table_Table_cas_2 o k p_b1 r).2 = (3 = 3 ∧ 3 ≤ 28 ∧ (wP (.idxSlice 2 (.c (.acc 1 0 2 p_b1.length true)) (.c (.int .i64 k))) = some (.ptr (some (1, 0 + k.toNat * 2))) ∧ (cPart false (0 + k.toNat * 2 + 1) 1 (F_api_Pair p_b1) = some (.str x1.Value) ∧ (((!(x1.Value == o.Old)) = true → lff (out_table_Table_cas_2 o k p_b1) ((⟨6, x1.Value⟩ : api_Answer), p_b1) r) ∧ ((!(x1.Value == o.Old)) = false → (Spec C 129 [(.ptr (some (0, 0))), (.int .i64 k), (.str o.Value)] [(some (.cells [(.acc 1 0 2 p_b1.length true)] false false)), (some (.cells (F_api_Pair p_b1) false true))] (.tuple []) [(some (.cells [(.acc 2 0 2 x2.length true)] false false)), (some (.cells (F_api_Pair p_b1) false true)), (some (.cells (F_api_Pair x2) false true))] ∧ (2 ≤ 3 ∧ lff (out_table_Table_cas_2 o k p_b1) ((⟨0, ([] : List UInt8)⟩ : api_Answer), x2) r))))))) := fun C => by kernel_rfl
  refine spec_of (fun _ _ h => by cases h) rfl atab_98 WF98_ok ((e _).mpr ⟨rfl, by decide, ?_⟩)
  unfold table_Table_cas_2 at h
  obtain ⟨q1, h⟩ := bget hx1 h
  refine ⟨wP_idxA R_api_Pair q1, ?_⟩
  refine ⟨cP_row (o := 1) R_api_Pair q1 rfl, ?_⟩
  refine ⟨fun hb => ?_, fun hb => ?_⟩
  · have h := cond_t hb h
    exact lff_of h
  · have h := cond_f hb h
    obtain ⟨q2, h⟩ := bget hx2 h
    refine ⟨s_table_Table_set_2 (d + 0) q2, ?_⟩
    refine ⟨by decide, ?_⟩
    exact lff_of h

/- (*osmosis/table.Table).Do -/
def table_Table_Do (o : api_Op) : Option (api_Answer × List api_Pair) :=
  (table_Right o).bind fun (x1 : Bool) => cond (!x1) (some ((⟨1, ([] : List UInt8)⟩ : api_Answer), [])) ((table_Table_find o.Key).bind fun (x2 : Int × Bool) => cond (o.Kind == 2) ((table_Table_put o x2.1 x2.2).bind fun (x3 : api_Answer × List api_Pair) => some (x3.1, x3.2)) (cond (!x2.2) (some ((⟨4, ([] : List UInt8)⟩ : api_Answer), [])) (cond (o.Kind == 1) (none) (cond (o.Kind == 4) ((table_Table_cas_2 o x2.1 []).bind fun (x4 : api_Answer × List api_Pair) => some (x4.1, x4.2)) (gd (fitsB 32 0) (gd (delB x2.1 (IntKind.i64.wrap (x2.1 + 1)) 0) (some ((⟨0, ([] : List UInt8)⟩ : api_Answer), (delL ([] : List api_Pair) x2.1 (IntKind.i64.wrap (x2.1 + 1)))))))))))
def out_table_Table_Do (o : api_Op) (r : api_Answer × List api_Pair) : AV × WH := ((.agg (e_api_Answer r.1)), [(some (.cells [(.acc 1 0 2 r.2.length true)] false false)), (some (.cells (F_api_Pair r.2) false true))])

theorem s_table_Table_Do (d : Nat) {o : api_Op} {r : api_Answer × List api_Pair} (h : table_Table_Do o = some r) : Spec (wcalls atab (d + 6)) 52 [(.ptr (some (0, 0))), (.agg (e_api_Op o))] [(some (.cells [(.slice none 2 0 0 true)] false false))] (out_table_Table_Do o r).1 (out_table_Table_Do o r).2 := by
  obtain ⟨x1, hx1⟩ := wx (table_Right o)
  obtain ⟨x2, hx2⟩ := wx (table_Table_find o.Key)
  obtain ⟨x3, hx3⟩ := wx (table_Table_put o x2.1 x2.2)
  obtain ⟨x4, hx4⟩ := wx (table_Table_cas_2 o x2.1 [])
  have e : ∀ C : ACalls, wBody C wB KK WF52 [(.ptr (some (0, 0))), (.agg (e_api_Op o))] [(some (.cells [(.slice none 2 0 0 true)] false false))] (.cb [] [] (.bool x1) (.br 9 (.st none (.fin (some false) [] (some true))) (.call [] none [] (.tuple [(.int .i64 x2.1), (.bool x2.2)]) [(some (.cells [(.slice none 2 0 0 true)] false false))] (.br 18 (.call [] none [] (.agg (e_api_Answer x3.1)) [(some (.cells [(.acc 1 0 2 x3.2.length true)] false false)), (some (.cells (F_api_Pair x3.2) false true))] (.st none (.fin (some false) [] (some true)))) (.br 27 (.st none (.fin (some false) [] (some true))) (.br 31 (.nil) (.br 44 (.call [] (some true) [] (.agg (e_api_Answer x4.1)) [(some (.cells [(.acc 2 0 2 x4.2.length true)] false false)), none, (some (.cells (F_api_Pair x4.2) false true))] (.st none (.fin (some false) [] (some true)))) (.ap 61 (delL ([] : List api_Pair) x2.1 (IntKind.i64.wrap (x2.1 + 1))).length (F_api_Pair (delL ([] : List api_Pair) x2.1 (IntKind.i64.wrap (x2.1 + 1)))) (.st none (.st none (.fin (some false) [] (some true)))))))))))) (out_table_Table_Do o r).1 (out_table_Table_Do o r).2 = (2 = 2 ∧ 2 ≤ 65 ∧ (Spec C 57 [(.agg (e_api_Op o))] [] (.bool x1) [] ∧ (((!x1) = true → (@Eq AV (.agg (e_api_Answer (⟨1, ([] : List UInt8)⟩ : api_Answer))) (out_table_Table_Do o r).1 ∧ @Eq WH [(some (.cells [(.acc 1 0 2 0 true)] false false)), (some (.cells (F_api_Pair []) false true))] (out_table_Table_Do o r).2)) ∧ ((!x1) = false → (Spec C 96 [(.ptr (some (0, 0))), (.str o.Key)] [(some (.cells [(.slice none 2 0 0 true)] false false))] (.tuple [(.int .i64 x2.1), (.bool x2.2)]) [(some (.cells [(.slice none 2 0 0 true)] false false))] ∧ (1 ≤ 1 ∧ (((o.Kind == 2) = true → (Spec C 97 [(.ptr (some (0, 0))), (.agg (e_api_Op o)), (.int .i64 x2.1), (.bool x2.2)] [(some (.cells [(.slice none 2 0 0 true)] false false))] (.agg (e_api_Answer x3.1)) [(some (.cells [(.acc 1 0 2 x3.2.length true)] false false)), (some (.cells (F_api_Pair x3.2) false true))] ∧ (1 ≤ 2 ∧ lff (out_table_Table_Do o) (x3.1, x3.2) r))) ∧ ((o.Kind == 2) = false → (((!x2.2) = true → (@Eq AV (.agg (e_api_Answer (⟨4, ([] : List UInt8)⟩ : api_Answer))) (out_table_Table_Do o r).1 ∧ @Eq WH [(some (.cells [(.acc 1 0 2 0 true)] false false)), (some (.cells (F_api_Pair []) false true))] (out_table_Table_Do o r).2)) ∧ ((!x2.2) = false → (((o.Kind == 1) = true → False) ∧ ((o.Kind == 1) = false → (((o.Kind == 4) = true → (Spec C 98 [(.ptr (some (0, 0))), (.agg (e_api_Op o)), (.int .i64 x2.1)] [(some (.cells [(.acc 1 0 2 0 true)] false false)), (some (.cells (F_api_Pair []) false true))] (.agg (e_api_Answer x4.1)) [(some (.cells [(.acc 2 0 2 x4.2.length true)] false false)), none, (some (.cells (F_api_Pair x4.2) false true))] ∧ (2 ≤ 3 ∧ lff (out_table_Table_Do o) (x4.1, x4.2) r))) ∧ ((o.Kind == 4) = false → (fitsB 32 0 = true ∧ ((0 ≤ x2.1 ∧ x2.1 < (IntKind.i64.wrap (x2.1 + 1)) ∧ (IntKind.i64.wrap (x2.1 + 1)) ≤ ((0 : Nat) : Int)) ∧ (0 - ((IntKind.i64.wrap (x2.1 + 1)).toNat - x2.1.toNat) = (delL ([] : List api_Pair) x2.1 (IntKind.i64.wrap (x2.1 + 1))).length ∧ ((F_api_Pair ([] : List api_Pair)).take (x2.1.toNat * 2) ++ (F_api_Pair ([] : List api_Pair)).drop ((IntKind.i64.wrap (x2.1 + 1)).toNat * 2) = F_api_Pair (delL ([] : List api_Pair) x2.1 (IntKind.i64.wrap (x2.1 + 1))) ∧ lff (out_table_Table_Do o) ((⟨0, ([] : List UInt8)⟩ : api_Answer), (delL ([] : List api_Pair) x2.1 (IntKind.i64.wrap (x2.1 + 1)))) r)))))))))))))))))) := fun C => by kernel_rfl
  refine spec_of (wB_ok _) rfl atab_52 WF52_ok ((e _).mpr ⟨rfl, by decide, ?_⟩)
  unfold table_Table_Do at h
  obtain ⟨q1, h⟩ := bget hx1 h
  refine ⟨s_table_Right (d + 4) q1, ?_⟩
  refine ⟨fun hb => ?_, fun hb => ?_⟩
  · have h := cond_t hb h
    obtain rfl := Option.some.inj h
    refine ⟨?_, ?_⟩ <;> first | rfl | (simp only [out_table_Table_Do, List.length_set, List.length_append, List.length_replicate, List.length_cons, List.length_nil, List.length_take, List.length_drop, Nat.add_zero, Nat.zero_add]; done) | simp [out_table_Table_Do]
  · have h := cond_f hb h
    obtain ⟨q2, h⟩ := bget hx2 h
    refine ⟨s_table_Table_find (d + 0) q2, ?_⟩
    refine ⟨by decide, ?_⟩
    refine ⟨fun hb => ?_, fun hb => ?_⟩
    · have h := cond_t hb h
      obtain ⟨q3, h⟩ := bget hx3 h
      refine ⟨s_table_Table_put (d + 2) q3, ?_⟩
      refine ⟨by decide, ?_⟩
      exact lff_of h
    · have h := cond_f hb h
      refine ⟨fun hb => ?_, fun hb => ?_⟩
      · have h := cond_t hb h
        obtain rfl := Option.some.inj h
        refine ⟨?_, ?_⟩ <;> first | rfl | (simp only [out_table_Table_Do, List.length_set, List.length_append, List.length_replicate, List.length_cons, List.length_nil, List.length_take, List.length_drop, Nat.add_zero, Nat.zero_add]; done) | simp [out_table_Table_Do]
      · have h := cond_f hb h
        refine ⟨fun hb => ?_, fun hb => ?_⟩
        · have h := cond_t hb h
          cases h
        · have h := cond_f hb h
          refine ⟨fun hb => ?_, fun hb => ?_⟩
          · have h := cond_t hb h
            obtain ⟨q4, h⟩ := bget hx4 h
            refine ⟨s_table_Table_cas_2 (d + 2) q4, ?_⟩
            refine ⟨by decide, ?_⟩
            exact lff_of h
          · have h := cond_f hb h
            obtain ⟨q5, h⟩ := gd_some h
            refine ⟨q5, ?_⟩
            obtain ⟨q6, h⟩ := gd_some h
            refine ⟨delB_1 q6, ?_⟩
            refine ⟨delB_2 (l := ([] : List api_Pair)) q6, ?_⟩
            refine ⟨del_row R_api_Pair, ?_⟩
            exact lff_of h

/- (*osmosis/table.Table).find -/
def table_Table_find_2 (key : List UInt8) (p_b1 : List api_Pair) : Option (Int × Bool) :=
  (slices_BinarySearchFunc_api_Pair_api_Pair_string p_b1 key).bind fun (x1 : Int × Bool) => some (x1.1, x1.2)
def out_table_Table_find_2 (key : List UInt8) (p_b1 : List api_Pair) (r : Int × Bool) : AV × WH := ((.tuple [(.int .i64 r.1), (.bool r.2)]), [(some (.cells [(.acc 1 0 2 p_b1.length true)] false false)), (some (.cells (F_api_Pair p_b1) false true))])

theorem s_table_Table_find_2 (d : Nat) {key : List UInt8} {p_b1 : List api_Pair} {r : Int × Bool} (h : table_Table_find_2 key p_b1 = some r) : Spec (wcalls atab (d + 5)) 96 [(.ptr (some (0, 0))), (.str key)] [(some (.cells [(.acc 1 0 2 p_b1.length true)] false false)), (some (.cells (F_api_Pair p_b1) false true))] (out_table_Table_find_2 key p_b1 r).1 (out_table_Table_find_2 key p_b1 r).2 := by
  obtain ⟨x1, hx1⟩ := wx (slices_BinarySearchFunc_api_Pair_api_Pair_string p_b1 key)
  have e : ∀ C : ACalls, wBody C (fun _ => none) KK WF96 [(.ptr (some (0, 0))), (.str key)] [(some (.cells [(.acc 1 0 2 p_b1.length true)] false false)), (some (.cells (F_api_Pair p_b1) false true))] (.cb [] [.slice none 2 0 0 true] (.tuple [(.int .i64 x1.1), (.bool x1.2)]) (.fin (some false) [] none)) (out_table_Table_find_2 key p_b1 r).1 (out_table_Table_find_2 key p_b1 r).2 = (2 = 2 ∧ 2 ≤ 14 ∧ (Spec C 126 [(l_api_Pair p_b1), (.str key), (.func 127 [])] [] (.tuple [(.int .i64 x1.1), (.bool x1.2)]) [] ∧ lff (out_table_Table_find_2 key p_b1) (x1.1, x1.2) r)) := fun C => by kernel_rfl
  refine spec_of (fun _ _ h => by cases h) rfl atab_96 WF96_ok ((e _).mpr ⟨rfl, by decide, ?_⟩)
  unfold table_Table_find_2 at h
  obtain ⟨q1, h⟩ := bget hx1 h
  refine ⟨s_slices_BinarySearchFunc_api_Pair_api_Pair_string (d + 0) q1, ?_⟩
  exact lff_of h

/- (*osmosis/table.Table).put -/
def table_Table_put_2 (o : api_Op) (k : Int) (had : Bool) (p_b1 : List api_Pair) : Option (api_Answer × List api_Pair) :=
  cond had ((table_Table_set_2 k o.Value p_b1).bind fun (x1 : List api_Pair) => some ((⟨0, ([] : List UInt8)⟩ : api_Answer), x1)) (cond ((p_b1.length : Int) == 8) (some ((⟨5, ([] : List UInt8)⟩ : api_Answer), p_b1)) (gd (fitsB 32 p_b1.length) (gd (insB 32 k p_b1.length) (some ((⟨0, ([] : List UInt8)⟩ : api_Answer), (insL p_b1 k (⟨o.Key, o.Value⟩ : api_Pair)))))))
def out_table_Table_put_2 (o : api_Op) (k : Int) (had : Bool) (p_b1 : List api_Pair) (r : api_Answer × List api_Pair) : AV × WH := ((.agg (e_api_Answer r.1)), [(some (.cells [(.acc 2 0 2 r.2.length true)] false false)), none, (some (.cells (F_api_Pair r.2) false true))])

theorem s_table_Table_put_2 (d : Nat) {o : api_Op} {k : Int} {had : Bool} {p_b1 : List api_Pair} {r : api_Answer × List api_Pair} (h : table_Table_put_2 o k had p_b1 = some r) : Spec (wcalls atab (d + 3)) 97 [(.ptr (some (0, 0))), (.agg (e_api_Op o)), (.int .i64 k), (.bool had)] [(some (.cells [(.acc 1 0 2 p_b1.length true)] false false)), (some (.cells (F_api_Pair p_b1) false true))] (out_table_Table_put_2 o k had p_b1 r).1 (out_table_Table_put_2 o k had p_b1 r).2 := by
  obtain ⟨x1, hx1⟩ := wx (table_Table_set_2 k o.Value p_b1)
  have e : ∀ C : ACalls, wBody C wB KK WF97 [(.ptr (some (0, 0))), (.agg (e_api_Op o)), (.int .i64 k), (.bool had)] [(some (.cells [(.acc 1 0 2 p_b1.length true)] false false)), (some (.cells (F_api_Pair p_b1) false true))] (.br 25 (.call [] none [] (.tuple []) [(some (.cells [(.acc 2 0 2 x1.length true)] false false)), (some (.cells (F_api_Pair p_b1) false true)), (some (.cells (F_api_Pair x1) false true))] (.st none (.kl [1] (.fin (some false) [] (some true))))) (.br 32 (.st none (.fin (some false) [] (some true))) (.ap 22 (insL p_b1 k (⟨o.Key, o.Value⟩ : api_Pair)).length (F_api_Pair (insL p_b1 k (⟨o.Key, o.Value⟩ : api_Pair))) (.st none (.st none (.kl [1] (.fin (some false) [] (some true)))))))) (out_table_Table_put_2 o k had p_b1 r).1 (out_table_Table_put_2 o k had p_b1 r).2 = (4 = 4 ∧ 4 ≤ 41 ∧ ((had = true → (Spec C 129 [(.ptr (some (0, 0))), (.int .i64 k), (.str o.Value)] [(some (.cells [(.acc 1 0 2 p_b1.length true)] false false)), (some (.cells (F_api_Pair p_b1) false true))] (.tuple []) [(some (.cells [(.acc 2 0 2 x1.length true)] false false)), (some (.cells (F_api_Pair p_b1) false true)), (some (.cells (F_api_Pair x1) false true))] ∧ (2 ≤ 3 ∧ lff (out_table_Table_put_2 o k had p_b1) ((⟨0, ([] : List UInt8)⟩ : api_Answer), x1) r))) ∧ (had = false → ((((p_b1.length : Int) == 8) = true → lff (out_table_Table_put_2 o k had p_b1) ((⟨5, ([] : List UInt8)⟩ : api_Answer), p_b1) r) ∧ (((p_b1.length : Int) == 8) = false → (fitsB 32 p_b1.length = true ∧ ((0 ≤ k ∧ k ≤ ((p_b1.length : Nat) : Int)) ∧ (p_b1.length + 1 = (insL p_b1 k (⟨o.Key, o.Value⟩ : api_Pair)).length ∧ ((F_api_Pair p_b1).take (k.toNat * 2) ++ ([(.str o.Key), (.str o.Value)] ++ (F_api_Pair p_b1).drop (k.toNat * 2)) = F_api_Pair (insL p_b1 k (⟨o.Key, o.Value⟩ : api_Pair)) ∧ (fitsB 32 (insL p_b1 k (⟨o.Key, o.Value⟩ : api_Pair)).length = true ∧ lff (out_table_Table_put_2 o k had p_b1) ((⟨0, ([] : List UInt8)⟩ : api_Answer), (insL p_b1 k (⟨o.Key, o.Value⟩ : api_Pair))) r)))))))))) := fun C => by kernel_rfl
  refine spec_of (wB_ok _) rfl atab_97 WF97_ok ((e _).mpr ⟨rfl, by decide, ?_⟩)
  unfold table_Table_put_2 at h
  refine ⟨fun hb => ?_, fun hb => ?_⟩
  · have h := cond_t hb h
    obtain ⟨q1, h⟩ := bget hx1 h
    refine ⟨s_table_Table_set_2 (d + 0) q1, ?_⟩
    refine ⟨by decide, ?_⟩
    exact lff_of h
  · have h := cond_f hb h
    refine ⟨fun hb => ?_, fun hb => ?_⟩
    · have h := cond_t hb h
      exact lff_of h
    · have h := cond_f hb h
      obtain ⟨q2, h⟩ := gd_some h
      refine ⟨q2, ?_⟩
      obtain ⟨q3, h⟩ := gd_some h
      refine ⟨insB_1 q3, ?_⟩
      refine ⟨insB_2 (l := p_b1) q3, ?_⟩
      refine ⟨ins_row R_api_Pair rfl, ?_⟩
      refine ⟨insB_3 (l := p_b1) q3, ?_⟩
      exact lff_of h

/- (*osmosis/table.Table).Do -/
def table_Table_Do_2 (o : api_Op) (p_b1 : List api_Pair) : Option (api_Answer × List api_Pair) :=
  (table_Right o).bind fun (x1 : Bool) => cond (!x1) (some ((⟨1, ([] : List UInt8)⟩ : api_Answer), p_b1)) ((table_Table_find_2 o.Key p_b1).bind fun (x2 : Int × Bool) => cond (o.Kind == 2) ((table_Table_put_2 o x2.1 x2.2 p_b1).bind fun (x3 : api_Answer × List api_Pair) => some (x3.1, x3.2)) (cond (!x2.2) (some ((⟨4, ([] : List UInt8)⟩ : api_Answer), p_b1)) (cond (o.Kind == 1) ((getI p_b1 x2.1).bind fun (x4 : api_Pair) => some ((⟨0, x4.Value⟩ : api_Answer), p_b1)) (cond (o.Kind == 4) ((table_Table_cas_2 o x2.1 p_b1).bind fun (x5 : api_Answer × List api_Pair) => some (x5.1, x5.2)) (gd (fitsB 32 p_b1.length) (gd (delB x2.1 (IntKind.i64.wrap (x2.1 + 1)) p_b1.length) (some ((⟨0, ([] : List UInt8)⟩ : api_Answer), (delL p_b1 x2.1 (IntKind.i64.wrap (x2.1 + 1)))))))))))
def out_table_Table_Do_2 (o : api_Op) (p_b1 : List api_Pair) (r : api_Answer × List api_Pair) : AV × WH := ((.agg (e_api_Answer r.1)), [(some (.cells [(.acc 2 0 2 r.2.length true)] false false)), none, (some (.cells (F_api_Pair r.2) false true))])

theorem s_table_Table_Do_2 (d : Nat) {o : api_Op} {p_b1 : List api_Pair} {r : api_Answer × List api_Pair} (h : table_Table_Do_2 o p_b1 = some r) : Spec (wcalls atab (d + 6)) 52 [(.ptr (some (0, 0))), (.agg (e_api_Op o))] [(some (.cells [(.acc 1 0 2 p_b1.length true)] false false)), (some (.cells (F_api_Pair p_b1) false true))] (out_table_Table_Do_2 o p_b1 r).1 (out_table_Table_Do_2 o p_b1 r).2 := by
  obtain ⟨x1, hx1⟩ := wx (table_Right o)
  obtain ⟨x2, hx2⟩ := wx (table_Table_find_2 o.Key p_b1)
  obtain ⟨x3, hx3⟩ := wx (table_Table_put_2 o x2.1 x2.2 p_b1)
  obtain ⟨x4, hx4⟩ := wx (getI p_b1 x2.1)
  obtain ⟨x5, hx5⟩ := wx (table_Table_cas_2 o x2.1 p_b1)
  have e : ∀ C : ACalls, wBody C wB KK WF52 [(.ptr (some (0, 0))), (.agg (e_api_Op o))] [(some (.cells [(.acc 1 0 2 p_b1.length true)] false false)), (some (.cells (F_api_Pair p_b1) false true))] (.cb [] [] (.bool x1) (.br 9 (.st none (.fin (some false) [] (some true))) (.call [] none [] (.tuple [(.int .i64 x2.1), (.bool x2.2)]) [(some (.cells [(.acc 1 0 2 p_b1.length true)] false false)), (some (.cells (F_api_Pair p_b1) false true))] (.br 18 (.call [] none [] (.agg (e_api_Answer x3.1)) [(some (.cells [(.acc 2 0 2 x3.2.length true)] false false)), none, (some (.cells (F_api_Pair x3.2) false true))] (.st none (.fin (some false) [] (some true)))) (.br 27 (.st none (.fin (some false) [] (some true))) (.br 31 (.v 40 (.ptr (some (1, 0 + x2.1.toNat * 2))) (.v 42 (.str x4.Value) (.st none (.fin (some false) [] (some true))))) (.br 44 (.call [] none [] (.agg (e_api_Answer x5.1)) [(some (.cells [(.acc 2 0 2 x5.2.length true)] false false)), none, (some (.cells (F_api_Pair x5.2) false true))] (.st none (.fin (some false) [] (some true)))) (.ap 61 (delL p_b1 x2.1 (IntKind.i64.wrap (x2.1 + 1))).length (F_api_Pair (delL p_b1 x2.1 (IntKind.i64.wrap (x2.1 + 1)))) (.st none (.st none (.kl [1] (.fin (some false) [] (some true))))))))))))) (out_table_Table_Do_2 o p_b1 r).1 (out_table_Table_Do_2 o p_b1 r).2 = (2 = 2 ∧ 2 ≤ 65 ∧ (Spec C 57 [(.agg (e_api_Op o))] [] (.bool x1) [] ∧ (((!x1) = true → lff (out_table_Table_Do_2 o p_b1) ((⟨1, ([] : List UInt8)⟩ : api_Answer), p_b1) r) ∧ ((!x1) = false → (Spec C 96 [(.ptr (some (0, 0))), (.str o.Key)] [(some (.cells [(.acc 1 0 2 p_b1.length true)] false false)), (some (.cells (F_api_Pair p_b1) false true))] (.tuple [(.int .i64 x2.1), (.bool x2.2)]) [(some (.cells [(.acc 1 0 2 p_b1.length true)] false false)), (some (.cells (F_api_Pair p_b1) false true))] ∧ (2 ≤ 2 ∧ (((o.Kind == 2) = true → (Spec C 97 [(.ptr (some (0, 0))), (.agg (e_api_Op o)), (.int .i64 x2.1), (.bool x2.2)] [(some (.cells [(.acc 1 0 2 p_b1.length true)] false false)), (some (.cells (F_api_Pair p_b1) false true))] (.agg (e_api_Answer x3.1)) [(some (.cells [(.acc 2 0 2 x3.2.length true)] false false)), none, (some (.cells (F_api_Pair x3.2) false true))] ∧ (2 ≤ 3 ∧ lff (out_table_Table_Do_2 o p_b1) (x3.1, x3.2) r))) ∧ ((o.Kind == 2) = false → (((!x2.2) = true → lff (out_table_Table_Do_2 o p_b1) ((⟨4, ([] : List UInt8)⟩ : api_Answer), p_b1) r) ∧ ((!x2.2) = false → (((o.Kind == 1) = true → (wP (.idxSlice 2 (.c (.acc 1 0 2 p_b1.length true)) (.c (.int .i64 x2.1))) = some (.ptr (some (1, 0 + x2.1.toNat * 2))) ∧ (cPart false (0 + x2.1.toNat * 2 + 1) 1 (F_api_Pair p_b1) = some (.str x4.Value) ∧ lff (out_table_Table_Do_2 o p_b1) ((⟨0, x4.Value⟩ : api_Answer), p_b1) r))) ∧ ((o.Kind == 1) = false → (((o.Kind == 4) = true → (Spec C 98 [(.ptr (some (0, 0))), (.agg (e_api_Op o)), (.int .i64 x2.1)] [(some (.cells [(.acc 1 0 2 p_b1.length true)] false false)), (some (.cells (F_api_Pair p_b1) false true))] (.agg (e_api_Answer x5.1)) [(some (.cells [(.acc 2 0 2 x5.2.length true)] false false)), none, (some (.cells (F_api_Pair x5.2) false true))] ∧ (2 ≤ 3 ∧ lff (out_table_Table_Do_2 o p_b1) (x5.1, x5.2) r))) ∧ ((o.Kind == 4) = false → (fitsB 32 p_b1.length = true ∧ ((0 ≤ x2.1 ∧ x2.1 < (IntKind.i64.wrap (x2.1 + 1)) ∧ (IntKind.i64.wrap (x2.1 + 1)) ≤ ((p_b1.length : Nat) : Int)) ∧ (p_b1.length - ((IntKind.i64.wrap (x2.1 + 1)).toNat - x2.1.toNat) = (delL p_b1 x2.1 (IntKind.i64.wrap (x2.1 + 1))).length ∧ ((F_api_Pair p_b1).take (x2.1.toNat * 2) ++ (F_api_Pair p_b1).drop ((IntKind.i64.wrap (x2.1 + 1)).toNat * 2) = F_api_Pair (delL p_b1 x2.1 (IntKind.i64.wrap (x2.1 + 1))) ∧ lff (out_table_Table_Do_2 o p_b1) ((⟨0, ([] : List UInt8)⟩ : api_Answer), (delL p_b1 x2.1 (IntKind.i64.wrap (x2.1 + 1)))) r)))))))))))))))))) := fun C => by kernel_rfl
  refine spec_of (wB_ok _) rfl atab_52 WF52_ok ((e _).mpr ⟨rfl, by decide, ?_⟩)
  unfold table_Table_Do_2 at h
  obtain ⟨q1, h⟩ := bget hx1 h
  refine ⟨s_table_Right (d + 4) q1, ?_⟩
  refine ⟨fun hb => ?_, fun hb => ?_⟩
  · have h := cond_t hb h
    exact lff_of h
  · have h := cond_f hb h
    obtain ⟨q2, h⟩ := bget hx2 h
    refine ⟨s_table_Table_find_2 (d + 0) q2, ?_⟩
    refine ⟨by decide, ?_⟩
    refine ⟨fun hb => ?_, fun hb => ?_⟩
    · have h := cond_t hb h
      obtain ⟨q3, h⟩ := bget hx3 h
      refine ⟨s_table_Table_put_2 (d + 2) q3, ?_⟩
      refine ⟨by decide, ?_⟩
      exact lff_of h
    · have h := cond_f hb h
      refine ⟨fun hb => ?_, fun hb => ?_⟩
      · have h := cond_t hb h
        exact lff_of h
      · have h := cond_f hb h
        refine ⟨fun hb => ?_, fun hb => ?_⟩
        · have h := cond_t hb h
          obtain ⟨q4, h⟩ := bget hx4 h
          refine ⟨wP_idxA R_api_Pair q4, ?_⟩
          refine ⟨cP_row (o := 1) R_api_Pair q4 rfl, ?_⟩
          exact lff_of h
        · have h := cond_f hb h
          refine ⟨fun hb => ?_, fun hb => ?_⟩
          · have h := cond_t hb h
            obtain ⟨q5, h⟩ := bget hx5 h
            refine ⟨s_table_Table_cas_2 (d + 2) q5, ?_⟩
            refine ⟨by decide, ?_⟩
            exact lff_of h
          · have h := cond_f hb h
            obtain ⟨q6, h⟩ := gd_some h
            refine ⟨q6, ?_⟩
            obtain ⟨q7, h⟩ := gd_some h
            refine ⟨delB_1 q7, ?_⟩
            refine ⟨delB_2 (l := p_b1) q7, ?_⟩
            refine ⟨del_row R_api_Pair, ?_⟩
            exact lff_of h

/- osmosis/table.Of -/
def st_table_Of_L0 (p : List api_Pair) (s5 : Int × List api_Pair) : List AV × WH := ([(.ptr (some (0, 0))), (.ptr (some (1, 0))), (l_api_Pair p), (.int .i64 (p.length : Int)), (.int .i64 s5.1)], [(some (.cells [(.acc 2 0 2 0 true)] false false)), (some (.cells [(.acc 3 0 2 s5.2.length true)] false false)), (some (.cells (F_api_Pair []) false true)), (some (.cells (F_api_Pair s5.2) false true))])
def fin_table_Of_L0 (p : List api_Pair) : (List api_Pair) → Ex × Fast × WH := fun e => ((.exit 0), [(2, (.ptr (some (0, 0)))), (3, (.ptr (some (1, 0))))], [(some (.cells [(.acc 2 0 2 0 true)] false false)), (some (.cells [(.acc 3 0 2 e.length true)] false false)), (some (.cells (F_api_Pair []) false true)), (some (.cells (F_api_Pair e) false true))])
abbrev rx_table_Of_L0 (p : List api_Pair) := roundX [2, 3, 6, 7, 8] (st_table_Of_L0 p) (fin_table_Of_L0 p)
def table_Of_L0_s (p : List api_Pair) (s5 : Int × List api_Pair) : Option ((Int × List api_Pair) ⊕ ((List api_Pair))) :=
  cond (decide (s5.1 < (p.length : Int))) ((getI p s5.1).bind fun (x6 : api_Pair) => (table_Table_Do_2 (⟨2, x6.Key, x6.Value, ([] : List UInt8)⟩ : api_Op) s5.2).bind fun (x7 : api_Answer × List api_Pair) => some (.inl ((IntKind.i64.wrap (s5.1 + 1)), x7.2))) (some (.inr s5.2))
def table_Of_L0 (p : List api_Pair) (s5 : Int × List api_Pair) : Option ((List api_Pair)) := loopX (table_Of_L0_s p) KK s5
theorem b_table_Of_L0 (d : Nat) {p : List api_Pair} {s5 : Int × List api_Pair} {r : (Int × List api_Pair) ⊕ ((List api_Pair))} (h : table_Of_L0_s p s5 = some r) : RunX (bexec (wcalls atab (d + 6)) KK 20 WB56_0) 0 (inL [2, 3, 6, 7, 8] (st_table_Of_L0 p s5)) (rx_table_Of_L0 p r) := by
  obtain ⟨x6, hx6⟩ := wx (getI p s5.1)
  obtain ⟨x7, hx7⟩ := wx (table_Table_Do_2 (⟨2, x6.Key, x6.Value, ([] : List UInt8)⟩ : api_Op) s5.2)
  have e : ∀ C : ACalls, wCode C (fun _ => none) KK 20 0 WB56_0 (inL [2, 3, 6, 7, 8] (st_table_Of_L0 p s5)).1 (inL [2, 3, 6, 7, 8] (st_table_Of_L0 p s5)).2 (.br 9 (.v 10 (.elem ((e_api_Pair x6) ++ F_api_Pair (p.drop (s5.1.toNat + 1)))) (.st none (.call [] none [] (.agg (e_api_Answer x7.1)) [(some (.cells [(.acc 2 0 2 x7.2.length true)] false false)), none, (some (.cells (F_api_Pair x7.2) false true))] (.en [2, 3, 6, 7, 8] [none, none, none, none, none] [] [.undef, .undef, .slice none 2 0 0 true, .undef, .undef])))) (.en [2, 3] [none, none] [] [])) (rx_table_Of_L0 p r) = (((decide (s5.1 < (p.length : Int))) = true → (wP (.idxSlice 2 (.c (l_api_Pair p)) (.c (.int .i64 s5.1))) = some (.elem ((e_api_Pair x6) ++ F_api_Pair (p.drop (s5.1.toNat + 1)))) ∧ (Spec C 52 [(.ptr (some (0, 0))), (.agg (e_api_Op (⟨2, x6.Key, x6.Value, ([] : List UInt8)⟩ : api_Op)))] [(some (.cells [(.acc 1 0 2 s5.2.length true)] false false)), (some (.cells (F_api_Pair s5.2) false true))] (.agg (e_api_Answer x7.1)) [(some (.cells [(.acc 2 0 2 x7.2.length true)] false false)), none, (some (.cells (F_api_Pair x7.2) false true))] ∧ (2 ≤ 3 ∧ lfe (rx_table_Of_L0 p) (.inl ((IntKind.i64.wrap (s5.1 + 1)), x7.2)) r)))) ∧ ((decide (s5.1 < (p.length : Int))) = false → lfe (rx_table_Of_L0 p) (.inr s5.2) r)) := fun C => by kernel_rfl
  refine runS_of (fun _ _ h => by cases h) WB56_0_ok (Nat.le_of_ble_eq_true rfl) ((e _).mpr ?_)
  unfold table_Of_L0_s at h
  refine ⟨fun hb => ?_, fun hb => ?_⟩
  · have h := cond_t hb h
    obtain ⟨q6, h⟩ := bget hx6 h
    refine ⟨wP_idx R_api_Pair q6, ?_⟩
    obtain ⟨q7, h⟩ := bget hx7 h
    refine ⟨s_table_Table_Do_2 (d + 0) q7, ?_⟩
    refine ⟨by decide, ?_⟩
    exact lfe_of h
  · have h := cond_f hb h
    exact lfe_of h
theorem s_table_Of_L0 (d : Nat) {p : List api_Pair} {s5 : Int × List api_Pair} {r : (List api_Pair)} (h : table_Of_L0 p s5 = some r) : RunX (bloop (bexec (wcalls atab (d + 6)) KK 20 WB56_0) [2, 3, 6, 7, 8] KK) 0 (inL [2, 3, 6, 7, 8] (st_table_Of_L0 p s5)) (fin_table_Of_L0 p r) :=
  loop_of (st := st_table_Of_L0 p) (fin := fin_table_Of_L0 p) (step := table_Of_L0_s p) (fun e => by (intro h; cases h)) (fun s x h => b_table_Of_L0 d h) KK s5 r h

def table_Of (p : List api_Pair) : Option (table_Table) :=
  (table_Of_L0 p (0, [])).bind fun (x8 : (List api_Pair)) => some (⟨x8⟩ : table_Table)
def out_table_Of (p : List api_Pair) (r : table_Table) : AV × WH := ((.agg (e_table_Table r)), [])

theorem s_table_Of (d : Nat) {p : List api_Pair} {r : table_Table} (h : table_Of p = some r) : Spec (wcalls atab (d + 7)) 56 [(l_api_Pair p)] [] (out_table_Of p r).1 (out_table_Of p r).2 := by
  obtain ⟨x8, hx8⟩ := wx (table_Of_L0 p (0, []))
  have e : ∀ C : ACalls, wBody C (fun _ => none) KK WF56 [(l_api_Pair p)] [] (.z 2 [.slice none 2 0 0 true] (.z 3 [.slice none 2 0 0 true] (.lp [none, none, none, none, none] [(some true), (some true), (some true), (some true)] [.undef, .undef, .slice none 2 0 0 true, .undef, .undef] (.exit 0) [(2, (.ptr (some (0, 0)))), (3, (.ptr (some (1, 0))))] [(some (.cells [(.acc 2 0 2 0 true)] false false)), (some (.cells [(.acc 3 0 2 x8.length true)] false false)), (some (.cells (F_api_Pair []) false true)), (some (.cells (F_api_Pair x8) false true))] (.st none (.fin (some false) [.agg [.slice none 2 0 0 true]] none))))) (out_table_Of p r).1 (out_table_Of p r).2 = (1 = 1 ∧ 1 ≤ 20 ∧ (RunS (bloop (bexec C KK 20 WB56_0) [2, 3, 6, 7, 8] KK) 0 [(2, (.ptr (some (0, 0)))), (3, (.ptr (some (1, 0)))), (6, (l_api_Pair p)), (7, (.int .i64 (p.length : Int))), (8, (.int .i64 0))] [(some (.cells [(.acc 2 0 2 0 true)] false false)), (some (.cells [(.acc 3 0 2 0 true)] false false)), (some (.cells (F_api_Pair []) false true)), (some (.cells (F_api_Pair []) false true))] (.exit 0) [(2, (.ptr (some (0, 0)))), (3, (.ptr (some (1, 0))))] [(some (.cells [(.acc 2 0 2 0 true)] false false)), (some (.cells [(.acc 3 0 2 x8.length true)] false false)), (some (.cells (F_api_Pair []) false true)), (some (.cells (F_api_Pair x8) false true))] ∧ lff (out_table_Of p) (⟨x8⟩ : table_Table) r)) := fun C => by kernel_rfl
  refine spec_of (fun _ _ h => by cases h) rfl atab_56 WF56_ok ((e _).mpr ⟨rfl, by decide, ?_⟩)
  unfold table_Of at h
  obtain ⟨q8, h⟩ := bget hx8 h
  refine ⟨s_table_Of_L0 (d + 0) q8, ?_⟩
  exact lff_of h

/- (*osmosis/table.Table).find -/
def table_Table_find_3 (key : List UInt8) (t : table_Table) : Option (Int × Bool) :=
  (slices_BinarySearchFunc_api_Pair_api_Pair_string t.l key).bind fun (x1 : Int × Bool) => some (x1.1, x1.2)
def out_table_Table_find_3 (key : List UInt8) (t : table_Table) (r : Int × Bool) : AV × WH := ((.tuple [(.int .i64 r.1), (.bool r.2)]), [(some (.cells (e_table_Table t) false false))])

theorem s_table_Table_find_3 (d : Nat) {key : List UInt8} {t : table_Table} {r : Int × Bool} (h : table_Table_find_3 key t = some r) : Spec (wcalls atab (d + 5)) 96 [(.ptr (some (0, 0))), (.str key)] [(some (.cells (e_table_Table t) false false))] (out_table_Table_find_3 key t r).1 (out_table_Table_find_3 key t r).2 := by
  obtain ⟨x1, hx1⟩ := wx (slices_BinarySearchFunc_api_Pair_api_Pair_string t.l key)
  have e : ∀ C : ACalls, wBody C (fun _ => none) KK WF96 [(.ptr (some (0, 0))), (.str key)] [(some (.cells (e_table_Table t) false false))] (.cb [] [.slice none 2 0 0 true] (.tuple [(.int .i64 x1.1), (.bool x1.2)]) (.fin (some false) [] none)) (out_table_Table_find_3 key t r).1 (out_table_Table_find_3 key t r).2 = (2 = 2 ∧ 2 ≤ 14 ∧ (Spec C 126 [(l_api_Pair t.l), (.str key), (.func 127 [])] [] (.tuple [(.int .i64 x1.1), (.bool x1.2)]) [] ∧ lff (out_table_Table_find_3 key t) (x1.1, x1.2) r)) := fun C => by kernel_rfl
  refine spec_of (fun _ _ h => by cases h) rfl atab_96 WF96_ok ((e _).mpr ⟨rfl, by decide, ?_⟩)
  unfold table_Table_find_3 at h
  obtain ⟨q1, h⟩ := bget hx1 h
  refine ⟨s_slices_BinarySearchFunc_api_Pair_api_Pair_string (d + 0) q1, ?_⟩
  exact lff_of h

/- (*osmosis/table.Table).set -/
def table_Table_set_3 (k : Int) (value : List UInt8) (t : table_Table) : Option (List api_Pair) :=
  gd (fitsB 32 t.l.length) ((getI t.l k).bind fun (x2 : api_Pair) => some (t.l.set k.toNat (⟨x2.Key, value⟩ : api_Pair)))
def out_table_Table_set_3 (k : Int) (value : List UInt8) (t : table_Table) (r : List api_Pair) : AV × WH := ((.tuple []), [(some (.cells [(.acc 1 0 2 r.length true)] false false)), (some (.cells (F_api_Pair r) false true))])

theorem s_table_Table_set_3 (d : Nat) {k : Int} {value : List UInt8} {t : table_Table} {r : List api_Pair} (h : table_Table_set_3 k value t = some r) : Spec (wcalls atab (d + 2)) 129 [(.ptr (some (0, 0))), (.int .i64 k), (.str value)] [(some (.cells (e_table_Table t) false false))] (out_table_Table_set_3 k value t r).1 (out_table_Table_set_3 k value t r).2 := by
  obtain ⟨x2, hx2⟩ := wx (getI t.l k)
  have e : ∀ C : ACalls, wBody C wB KK WF129 [(.ptr (some (0, 0))), (.int .i64 k), (.str value)] [(some (.cells (e_table_Table t) false false))] (.st none (.v 20 (.ptr (some (1, 0 + k.toNat * 2))) (.st (some (F_api_Pair (t.l.set k.toNat (⟨x2.Key, value⟩ : api_Pair)))) (.fin (some false) [] none)))) (out_table_Table_set_3 k value t r).1 (out_table_Table_set_3 k value t r).2 = (3 = 3 ∧ 3 ≤ 22 ∧ (fitsB 32 t.l.length = true ∧ (wP (.idxSlice 2 (.c (.acc 1 0 2 t.l.length true)) (.c (.int .i64 k))) = some (.ptr (some (1, 0 + k.toNat * 2))) ∧ (wrC (F_api_Pair t.l) (0 + k.toNat * 2 + 1) [(.str value)] = some (F_api_Pair (t.l.set k.toNat (⟨x2.Key, value⟩ : api_Pair))) ∧ (@Eq AV (.tuple []) (out_table_Table_set_3 k value t r).1 ∧ @Eq WH [(some (.cells [(.acc 1 0 2 t.l.length true)] false false)), (some (.cells (F_api_Pair (t.l.set k.toNat (⟨x2.Key, value⟩ : api_Pair))) false true))] (out_table_Table_set_3 k value t r).2))))) := fun C => by kernel_rfl
  refine spec_of (wB_ok _) rfl atab_129 WF129_ok ((e _).mpr ⟨rfl, by decide, ?_⟩)
  unfold table_Table_set_3 at h
  obtain ⟨q1, h⟩ := gd_some h
  refine ⟨q1, ?_⟩
  obtain ⟨q2, h⟩ := bget hx2 h
  refine ⟨wP_idxA R_api_Pair q2, ?_⟩
  refine ⟨wr_row (o := 1) R_api_Pair q2 rfl, ?_⟩
  try rw [show AV.list 2 t.l.length (F_api_Pair (t.l.set k.toNat (⟨x2.Key, value⟩ : api_Pair))) false = l_api_Pair (t.l.set k.toNat (⟨x2.Key, value⟩ : api_Pair)) from by simp only [l_api_Pair, List.length_set]]
  obtain rfl := Option.some.inj h
  refine ⟨?_, ?_⟩ <;> first | rfl | (simp only [out_table_Table_set_3, List.length_set, List.length_append, List.length_replicate, List.length_cons, List.length_nil, List.length_take, List.length_drop, Nat.add_zero, Nat.zero_add]; done) | simp [out_table_Table_set_3]

/- (*osmosis/table.Table).put -/
def table_Table_put_3 (o : api_Op) (k : Int) (had : Bool) (t : table_Table) : Option (api_Answer × table_Table) :=
  cond had ((table_Table_set_3 k o.Value t).bind fun (x1 : List api_Pair) => some ((⟨0, ([] : List UInt8)⟩ : api_Answer), (⟨x1⟩ : table_Table))) (cond ((t.l.length : Int) == 8) (some ((⟨5, ([] : List UInt8)⟩ : api_Answer), t)) (gd (fitsB 32 t.l.length) (gd (insB 32 k t.l.length) (some ((⟨0, ([] : List UInt8)⟩ : api_Answer), (⟨(insL t.l k (⟨o.Key, o.Value⟩ : api_Pair))⟩ : table_Table))))))
def out_table_Table_put_3 (o : api_Op) (k : Int) (had : Bool) (t : table_Table) (r : api_Answer × table_Table) : AV × WH := ((.agg (e_api_Answer r.1)), [(some (.cells (e_table_Table r.2) false false))])

theorem s_table_Table_put_3 (d : Nat) {o : api_Op} {k : Int} {had : Bool} {t : table_Table} {r : api_Answer × table_Table} (h : table_Table_put_3 o k had t = some r) : Spec (wcalls atab (d + 3)) 97 [(.ptr (some (0, 0))), (.agg (e_api_Op o)), (.int .i64 k), (.bool had)] [(some (.cells (e_table_Table t) false false))] (out_table_Table_put_3 o k had t r).1 (out_table_Table_put_3 o k had t r).2 := by
  obtain ⟨x1, hx1⟩ := wx (table_Table_set_3 k o.Value t)
  have e : ∀ C : ACalls, wBody C wB KK WF97 [(.ptr (some (0, 0))), (.agg (e_api_Op o)), (.int .i64 k), (.bool had)] [(some (.cells (e_table_Table t) false false))] (.br 25 (.call [] (some false) [] (.tuple []) [(some (.cells [(.acc 1 0 2 x1.length true)] false false)), (some (.cells (F_api_Pair x1) false true))] (.st none (.fin (some false) [] (some false)))) (.br 32 (.st none (.fin (some false) [] (some false))) (.ap 22 (insL t.l k (⟨o.Key, o.Value⟩ : api_Pair)).length (F_api_Pair (insL t.l k (⟨o.Key, o.Value⟩ : api_Pair))) (.st none (.st none (.fin (some false) [] (some false))))))) (out_table_Table_put_3 o k had t r).1 (out_table_Table_put_3 o k had t r).2 = (4 = 4 ∧ 4 ≤ 41 ∧ ((had = true → (Spec C 129 [(.ptr (some (0, 0))), (.int .i64 k), (.str o.Value)] [(some (.cells (e_table_Table t) false false))] (.tuple []) [(some (.cells [(.acc 1 0 2 x1.length true)] false false)), (some (.cells (F_api_Pair x1) false true))] ∧ (1 ≤ 2 ∧ lff (out_table_Table_put_3 o k had t) ((⟨0, ([] : List UInt8)⟩ : api_Answer), (⟨x1⟩ : table_Table)) r))) ∧ (had = false → ((((t.l.length : Int) == 8) = true → lff (out_table_Table_put_3 o k had t) ((⟨5, ([] : List UInt8)⟩ : api_Answer), t) r) ∧ (((t.l.length : Int) == 8) = false → (fitsB 32 t.l.length = true ∧ ((0 ≤ k ∧ k ≤ ((t.l.length : Nat) : Int)) ∧ (t.l.length + 1 = (insL t.l k (⟨o.Key, o.Value⟩ : api_Pair)).length ∧ ((F_api_Pair t.l).take (k.toNat * 2) ++ ([(.str o.Key), (.str o.Value)] ++ (F_api_Pair t.l).drop (k.toNat * 2)) = F_api_Pair (insL t.l k (⟨o.Key, o.Value⟩ : api_Pair)) ∧ (fitsB 32 (insL t.l k (⟨o.Key, o.Value⟩ : api_Pair)).length = true ∧ lff (out_table_Table_put_3 o k had t) ((⟨0, ([] : List UInt8)⟩ : api_Answer), (⟨(insL t.l k (⟨o.Key, o.Value⟩ : api_Pair))⟩ : table_Table)) r)))))))))) := fun C => by kernel_rfl
  refine spec_of (wB_ok _) rfl atab_97 WF97_ok ((e _).mpr ⟨rfl, by decide, ?_⟩)
  unfold table_Table_put_3 at h
  refine ⟨fun hb => ?_, fun hb => ?_⟩
  · have h := cond_t hb h
    obtain ⟨q1, h⟩ := bget hx1 h
    refine ⟨s_table_Table_set_3 (d + 0) q1, ?_⟩
    refine ⟨by decide, ?_⟩
    exact lff_of h
  · have h := cond_f hb h
    refine ⟨fun hb => ?_, fun hb => ?_⟩
    · have h := cond_t hb h
      exact lff_of h
    · have h := cond_f hb h
      obtain ⟨q2, h⟩ := gd_some h
      refine ⟨q2, ?_⟩
      obtain ⟨q3, h⟩ := gd_some h
      refine ⟨insB_1 q3, ?_⟩
      refine ⟨insB_2 (l := t.l) q3, ?_⟩
      refine ⟨ins_row R_api_Pair rfl, ?_⟩
      refine ⟨insB_3 (l := t.l) q3, ?_⟩
      exact lff_of h

/- (*osmosis/table.Table).cas -/
def table_Table_cas_3 (o : api_Op) (k : Int) (t : table_Table) : Option (api_Answer × table_Table) :=
  (getI t.l k).bind fun (x1 : api_Pair) => cond (!(x1.Value == o.Old)) (some ((⟨6, x1.Value⟩ : api_Answer), t)) ((table_Table_set_3 k o.Value t).bind fun (x2 : List api_Pair) => some ((⟨0, ([] : List UInt8)⟩ : api_Answer), (⟨x2⟩ : table_Table)))
def out_table_Table_cas_3 (o : api_Op) (k : Int) (t : table_Table) (r : api_Answer × table_Table) : AV × WH := ((.agg (e_api_Answer r.1)), [(some (.cells (e_table_Table r.2) false false))])

theorem s_table_Table_cas_3 (d : Nat) {o : api_Op} {k : Int} {t : table_Table} {r : api_Answer × table_Table} (h : table_Table_cas_3 o k t = some r) : Spec (wcalls atab (d + 3)) 98 [(.ptr (some (0, 0))), (.agg (e_api_Op o)), (.int .i64 k)] [(some (.cells (e_table_Table t) false false))] (out_table_Table_cas_3 o k t r).1 (out_table_Table_cas_3 o k t r).2 := by
  obtain ⟨x1, hx1⟩ := wx (getI t.l k)
  obtain ⟨x2, hx2⟩ := wx (table_Table_set_3 k o.Value t)
  have e : ∀ C : ACalls, wBody C (fun _ => none) KK WF98 [(.ptr (some (0, 0))), (.agg (e_api_Op o)), (.int .i64 k)] [(some (.cells (e_table_Table t) false false))] (.v 13 (.elem ((e_api_Pair x1) ++ F_api_Pair (t.l.drop (k.toNat + 1)))) (.br 19 (.st none (.fin (some false) [] (some false))) (.call [] (some false) [] (.tuple []) [(some (.cells [(.acc 1 0 2 x2.length true)] false false)), (some (.cells (F_api_Pair x2) false true))] (.st none (.fin (some false) [] (some false)))))) (out_table_Table_cas_3 o k t r).1 (out_table_Table_cas_3 o k t r).2 = (3 = 3 ∧ 3 ≤ 28 ∧ (wP (.idxSlice 2 (.c (l_api_Pair t.l)) (.c (.int .i64 k))) = some (.elem ((e_api_Pair x1) ++ F_api_Pair (t.l.drop (k.toNat + 1)))) ∧ (((!(x1.Value == o.Old)) = true → lff (out_table_Table_cas_3 o k t) ((⟨6, x1.Value⟩ : api_Answer), t) r) ∧ ((!(x1.Value == o.Old)) = false → (Spec C 129 [(.ptr (some (0, 0))), (.int .i64 k), (.str o.Value)] [(some (.cells (e_table_Table t) false false))] (.tuple []) [(some (.cells [(.acc 1 0 2 x2.length true)] false false)), (some (.cells (F_api_Pair x2) false true))] ∧ (1 ≤ 2 ∧ lff (out_table_Table_cas_3 o k t) ((⟨0, ([] : List UInt8)⟩ : api_Answer), (⟨x2⟩ : table_Table)) r)))))) := fun C => by kernel_rfl
  refine spec_of (fun _ _ h => by cases h) rfl atab_98 WF98_ok ((e _).mpr ⟨rfl, by decide, ?_⟩)
  unfold table_Table_cas_3 at h
  obtain ⟨q1, h⟩ := bget hx1 h
  refine ⟨wP_idx R_api_Pair q1, ?_⟩
  refine ⟨fun hb => ?_, fun hb => ?_⟩
  · have h := cond_t hb h
    exact lff_of h
  · have h := cond_f hb h
    obtain ⟨q2, h⟩ := bget hx2 h
    refine ⟨s_table_Table_set_3 (d + 0) q2, ?_⟩
    refine ⟨by decide, ?_⟩
    exact lff_of h

/- (*osmosis/table.Table).Do -/
def table_Table_Do_3 (o : api_Op) (t : table_Table) : Option (api_Answer × table_Table) :=
  (table_Right o).bind fun (x1 : Bool) => cond (!x1) (some ((⟨1, ([] : List UInt8)⟩ : api_Answer), t)) ((table_Table_find_3 o.Key t).bind fun (x2 : Int × Bool) => cond (o.Kind == 2) ((table_Table_put_3 o x2.1 x2.2 t).bind fun (x3 : api_Answer × table_Table) => some (x3.1, x3.2)) (cond (!x2.2) (some ((⟨4, ([] : List UInt8)⟩ : api_Answer), t)) (cond (o.Kind == 1) ((getI t.l x2.1).bind fun (x4 : api_Pair) => some ((⟨0, x4.Value⟩ : api_Answer), t)) (cond (o.Kind == 4) ((table_Table_cas_3 o x2.1 t).bind fun (x5 : api_Answer × table_Table) => some (x5.1, x5.2)) (gd (fitsB 32 t.l.length) (gd (delB x2.1 (IntKind.i64.wrap (x2.1 + 1)) t.l.length) (some ((⟨0, ([] : List UInt8)⟩ : api_Answer), (⟨(delL t.l x2.1 (IntKind.i64.wrap (x2.1 + 1)))⟩ : table_Table)))))))))
def out_table_Table_Do_3 (o : api_Op) (t : table_Table) (r : api_Answer × table_Table) : AV × WH := ((.agg (e_api_Answer r.1)), [(some (.cells (e_table_Table r.2) false false))])

theorem s_table_Table_Do_3 (d : Nat) {o : api_Op} {t : table_Table} {r : api_Answer × table_Table} (h : table_Table_Do_3 o t = some r) : Spec (wcalls atab (d + 6)) 52 [(.ptr (some (0, 0))), (.agg (e_api_Op o))] [(some (.cells (e_table_Table t) false false))] (out_table_Table_Do_3 o t r).1 (out_table_Table_Do_3 o t r).2 := by
  obtain ⟨x1, hx1⟩ := wx (table_Right o)
  obtain ⟨x2, hx2⟩ := wx (table_Table_find_3 o.Key t)
  obtain ⟨x3, hx3⟩ := wx (table_Table_put_3 o x2.1 x2.2 t)
  obtain ⟨x4, hx4⟩ := wx (getI t.l x2.1)
  obtain ⟨x5, hx5⟩ := wx (table_Table_cas_3 o x2.1 t)
  have e : ∀ C : ACalls, wBody C wB KK WF52 [(.ptr (some (0, 0))), (.agg (e_api_Op o))] [(some (.cells (e_table_Table t) false false))] (.cb [] [] (.bool x1) (.br 9 (.st none (.fin (some false) [] (some false))) (.call [] (some false) [] (.tuple [(.int .i64 x2.1), (.bool x2.2)]) [(some (.cells (e_table_Table t) false false))] (.br 18 (.call [] (some false) [] (.agg (e_api_Answer x3.1)) [(some (.cells (e_table_Table x3.2) false false))] (.st none (.fin (some false) [] (some false)))) (.br 27 (.st none (.fin (some false) [] (some false))) (.br 31 (.v 40 (.elem ((e_api_Pair x4) ++ F_api_Pair (t.l.drop (x2.1.toNat + 1)))) (.st none (.fin (some false) [] (some false)))) (.br 44 (.call [] (some false) [] (.agg (e_api_Answer x5.1)) [(some (.cells (e_table_Table x5.2) false false))] (.st none (.fin (some false) [] (some false)))) (.ap 61 (delL t.l x2.1 (IntKind.i64.wrap (x2.1 + 1))).length (F_api_Pair (delL t.l x2.1 (IntKind.i64.wrap (x2.1 + 1)))) (.st none (.st none (.fin (some false) [] (some false)))))))))))) (out_table_Table_Do_3 o t r).1 (out_table_Table_Do_3 o t r).2 = (2 = 2 ∧ 2 ≤ 65 ∧ (Spec C 57 [(.agg (e_api_Op o))] [] (.bool x1) [] ∧ (((!x1) = true → lff (out_table_Table_Do_3 o t) ((⟨1, ([] : List UInt8)⟩ : api_Answer), t) r) ∧ ((!x1) = false → (Spec C 96 [(.ptr (some (0, 0))), (.str o.Key)] [(some (.cells (e_table_Table t) false false))] (.tuple [(.int .i64 x2.1), (.bool x2.2)]) [(some (.cells (e_table_Table t) false false))] ∧ (1 ≤ 1 ∧ (((o.Kind == 2) = true → (Spec C 97 [(.ptr (some (0, 0))), (.agg (e_api_Op o)), (.int .i64 x2.1), (.bool x2.2)] [(some (.cells (e_table_Table t) false false))] (.agg (e_api_Answer x3.1)) [(some (.cells (e_table_Table x3.2) false false))] ∧ (1 ≤ 1 ∧ lff (out_table_Table_Do_3 o t) (x3.1, x3.2) r))) ∧ ((o.Kind == 2) = false → (((!x2.2) = true → lff (out_table_Table_Do_3 o t) ((⟨4, ([] : List UInt8)⟩ : api_Answer), t) r) ∧ ((!x2.2) = false → (((o.Kind == 1) = true → (wP (.idxSlice 2 (.c (l_api_Pair t.l)) (.c (.int .i64 x2.1))) = some (.elem ((e_api_Pair x4) ++ F_api_Pair (t.l.drop (x2.1.toNat + 1)))) ∧ lff (out_table_Table_Do_3 o t) ((⟨0, x4.Value⟩ : api_Answer), t) r)) ∧ ((o.Kind == 1) = false → (((o.Kind == 4) = true → (Spec C 98 [(.ptr (some (0, 0))), (.agg (e_api_Op o)), (.int .i64 x2.1)] [(some (.cells (e_table_Table t) false false))] (.agg (e_api_Answer x5.1)) [(some (.cells (e_table_Table x5.2) false false))] ∧ (1 ≤ 1 ∧ lff (out_table_Table_Do_3 o t) (x5.1, x5.2) r))) ∧ ((o.Kind == 4) = false → (fitsB 32 t.l.length = true ∧ ((0 ≤ x2.1 ∧ x2.1 < (IntKind.i64.wrap (x2.1 + 1)) ∧ (IntKind.i64.wrap (x2.1 + 1)) ≤ ((t.l.length : Nat) : Int)) ∧ (t.l.length - ((IntKind.i64.wrap (x2.1 + 1)).toNat - x2.1.toNat) = (delL t.l x2.1 (IntKind.i64.wrap (x2.1 + 1))).length ∧ ((F_api_Pair t.l).take (x2.1.toNat * 2) ++ (F_api_Pair t.l).drop ((IntKind.i64.wrap (x2.1 + 1)).toNat * 2) = F_api_Pair (delL t.l x2.1 (IntKind.i64.wrap (x2.1 + 1))) ∧ lff (out_table_Table_Do_3 o t) ((⟨0, ([] : List UInt8)⟩ : api_Answer), (⟨(delL t.l x2.1 (IntKind.i64.wrap (x2.1 + 1)))⟩ : table_Table)) r)))))))))))))))))) := fun C => by kernel_rfl
  refine spec_of (wB_ok _) rfl atab_52 WF52_ok ((e _).mpr ⟨rfl, by decide, ?_⟩)
  unfold table_Table_Do_3 at h
  obtain ⟨q1, h⟩ := bget hx1 h
  refine ⟨s_table_Right (d + 4) q1, ?_⟩
  refine ⟨fun hb => ?_, fun hb => ?_⟩
  · have h := cond_t hb h
    exact lff_of h
  · have h := cond_f hb h
    obtain ⟨q2, h⟩ := bget hx2 h
    refine ⟨s_table_Table_find_3 (d + 0) q2, ?_⟩
    refine ⟨by decide, ?_⟩
    refine ⟨fun hb => ?_, fun hb => ?_⟩
    · have h := cond_t hb h
      obtain ⟨q3, h⟩ := bget hx3 h
      refine ⟨s_table_Table_put_3 (d + 2) q3, ?_⟩
      refine ⟨by decide, ?_⟩
      exact lff_of h
    · have h := cond_f hb h
      refine ⟨fun hb => ?_, fun hb => ?_⟩
      · have h := cond_t hb h
        exact lff_of h
      · have h := cond_f hb h
        refine ⟨fun hb => ?_, fun hb => ?_⟩
        · have h := cond_t hb h
          obtain ⟨q4, h⟩ := bget hx4 h
          refine ⟨wP_idx R_api_Pair q4, ?_⟩
          exact lff_of h
        · have h := cond_f hb h
          refine ⟨fun hb => ?_, fun hb => ?_⟩
          · have h := cond_t hb h
            obtain ⟨q5, h⟩ := bget hx5 h
            refine ⟨s_table_Table_cas_3 (d + 2) q5, ?_⟩
            refine ⟨by decide, ?_⟩
            exact lff_of h
          · have h := cond_f hb h
            obtain ⟨q6, h⟩ := gd_some h
            refine ⟨q6, ?_⟩
            obtain ⟨q7, h⟩ := gd_some h
            refine ⟨delB_1 q7, ?_⟩
            refine ⟨delB_2 (l := t.l) q7, ?_⟩
            refine ⟨del_row R_api_Pair, ?_⟩
            exact lff_of h

/- (*osmosis/table.Table).Pairs -/
def table_Table_Pairs (t : table_Table) : Option (List api_Pair) :=
  gd (fitsB 32 t.l.length) (some t.l)
def out_table_Table_Pairs (t : table_Table) (r : List api_Pair) : AV × WH := ((l_api_Pair r), [(some (.cells (e_table_Table t) false false))])

theorem s_table_Table_Pairs (d : Nat) {t : table_Table} {r : List api_Pair} (h : table_Table_Pairs t = some r) : Spec (wcalls atab (d + 2)) 54 [(.ptr (some (0, 0)))] [(some (.cells (e_table_Table t) false false))] (out_table_Table_Pairs t r).1 (out_table_Table_Pairs t r).2 := by
  have e : ∀ C : ACalls, wBody C wB KK WF54 [(.ptr (some (0, 0)))] [(some (.cells (e_table_Table t) false false))] (.z 2 [.slice none 2 0 0 true] (.fin (some false) [.slice none 2 0 0 true] none)) (out_table_Table_Pairs t r).1 (out_table_Table_Pairs t r).2 = (1 = 1 ∧ 1 ≤ 9 ∧ (fitsB 32 t.l.length = true ∧ lff (out_table_Table_Pairs t) t.l r)) := fun C => by kernel_rfl
  refine spec_of (wB_ok _) rfl atab_54 WF54_ok ((e _).mpr ⟨rfl, by decide, ?_⟩)
  unfold table_Table_Pairs at h
  obtain ⟨q1, h⟩ := gd_some h
  refine ⟨q1, ?_⟩
  exact lff_of h

/- (*osmosis/table.Table).Len -/
def table_Table_Len (p_b1 : List api_Pair) : Option (Int) :=
  some (p_b1.length : Int)
def out_table_Table_Len (p_b1 : List api_Pair) (r : Int) : AV × WH := ((.int .i64 r), [(some (.cells [(.acc 1 0 2 p_b1.length true)] false false)), (some (.cells (F_api_Pair p_b1) false true))])

theorem s_table_Table_Len (d : Nat) {p_b1 : List api_Pair} {r : Int} (h : table_Table_Len p_b1 = some r) : Spec (wcalls atab (d + 1)) 53 [(.ptr (some (0, 0)))] [(some (.cells [(.acc 1 0 2 p_b1.length true)] false false)), (some (.cells (F_api_Pair p_b1) false true))] (out_table_Table_Len p_b1 r).1 (out_table_Table_Len p_b1 r).2 := by
  have e : ∀ C : ACalls, wBody C (fun _ => none) KK WF53 [(.ptr (some (0, 0)))] [(some (.cells [(.acc 1 0 2 p_b1.length true)] false false)), (some (.cells (F_api_Pair p_b1) false true))] (.fin (some false) [] none) (out_table_Table_Len p_b1 r).1 (out_table_Table_Len p_b1 r).2 = (1 = 1 ∧ 1 ≤ 8 ∧ lff (out_table_Table_Len p_b1) (p_b1.length : Int) r) := fun C => by kernel_rfl
  refine spec_of (fun _ _ h => by cases h) rfl atab_53 WF53_ok ((e _).mpr ⟨rfl, by decide, ?_⟩)
  unfold table_Table_Len at h
  exact lff_of h

/- osmosis/osmosislaw6.known -/
def osmosislaw6_known  : Option (Bool) :=
  (table_Table_Do (⟨2, [97], [49], ([] : List UInt8)⟩ : api_Op)).bind fun (x1 : api_Answer × List api_Pair) => (table_Table_Do_2 (⟨4, [97], [50], [51]⟩ : api_Op) x1.2).bind fun (x2 : api_Answer × List api_Pair) => cond (x1.1.Why == 0 && (x1.1.Value == ([] : List UInt8) && true)) (cond (x2.1.Why == 6 && (x2.1.Value == [49] && true)) ((table_Table_Len x2.2).bind fun (x3 : Int) => some (x3 == 1)) (some false)) (some false)
def out_osmosislaw6_known (r : Bool) : AV × WH := ((.bool r), [])

theorem s_osmosislaw6_known (d : Nat)  {r : Bool} (h : osmosislaw6_known = some r) : Spec (wcalls atab (d + 7)) 55 [] [] (out_osmosislaw6_known r).1 (out_osmosislaw6_known r).2 := by
  obtain ⟨x1, hx1⟩ := wx (table_Table_Do (⟨2, [97], [49], ([] : List UInt8)⟩ : api_Op))
  obtain ⟨x2, hx2⟩ := wx (table_Table_Do_2 (⟨4, [97], [50], [51]⟩ : api_Op) x1.2)
  obtain ⟨x3, hx3⟩ := wx (table_Table_Len x2.2)
  have e : ∀ C : ACalls, wBody C (fun _ => none) KK WF55 [] [] (.z 4 [.agg [.slice none 2 0 0 true]] (.z 1 [.slice none 2 0 0 true] (.st none (.call [] none [] (.agg (e_api_Answer x1.1)) [(some (.cells [(.acc 1 0 2 x1.2.length true)] false false)), (some (.cells (F_api_Pair x1.2) false true))] (.st none (.call [] none [] (.agg (e_api_Answer x2.1)) [(some (.cells [(.acc 2 0 2 x2.2.length true)] false false)), none, (some (.cells (F_api_Pair x2.2) false true))] (.st none (.br 12 (.br 17 (.call [] none [] (.int .i64 x3) [(some (.cells [(.acc 1 0 2 x2.2.length true)] false false)), (some (.cells (F_api_Pair x2.2) false true))] (.fin (some false) [] none)) (.fin (some false) [] none)) (.fin (some false) [] none))))))))) (out_osmosislaw6_known r).1 (out_osmosislaw6_known r).2 = (0 = 0 ∧ 0 ≤ 21 ∧ (Spec C 52 [(.ptr (some (0, 0))), (.agg (e_api_Op (⟨2, [97], [49], ([] : List UInt8)⟩ : api_Op)))] [(some (.cells [(.slice none 2 0 0 true)] false false))] (.agg (e_api_Answer x1.1)) [(some (.cells [(.acc 1 0 2 x1.2.length true)] false false)), (some (.cells (F_api_Pair x1.2) false true))] ∧ (1 ≤ 2 ∧ (Spec C 52 [(.ptr (some (0, 0))), (.agg (e_api_Op (⟨4, [97], [50], [51]⟩ : api_Op)))] [(some (.cells [(.acc 1 0 2 x1.2.length true)] false false)), (some (.cells (F_api_Pair x1.2) false true))] (.agg (e_api_Answer x2.1)) [(some (.cells [(.acc 2 0 2 x2.2.length true)] false false)), none, (some (.cells (F_api_Pair x2.2) false true))] ∧ (2 ≤ 3 ∧ (((x1.1.Why == 0 && (x1.1.Value == ([] : List UInt8) && true)) = true → (((x2.1.Why == 6 && (x2.1.Value == [49] && true)) = true → (Spec C 53 [(.ptr (some (0, 0)))] [(some (.cells [(.acc 1 0 2 x2.2.length true)] false false)), (some (.cells (F_api_Pair x2.2) false true))] (.int .i64 x3) [(some (.cells [(.acc 1 0 2 x2.2.length true)] false false)), (some (.cells (F_api_Pair x2.2) false true))] ∧ (2 ≤ 2 ∧ lff out_osmosislaw6_known (x3 == 1) r))) ∧ ((x2.1.Why == 6 && (x2.1.Value == [49] && true)) = false → lff out_osmosislaw6_known false r))) ∧ ((x1.1.Why == 0 && (x1.1.Value == ([] : List UInt8) && true)) = false → lff out_osmosislaw6_known false r))))))) := fun C => by kernel_rfl
  refine spec_of (fun _ _ h => by cases h) rfl atab_55 WF55_ok ((e _).mpr ⟨rfl, by decide, ?_⟩)
  unfold osmosislaw6_known at h
  obtain ⟨q1, h⟩ := bget hx1 h
  refine ⟨s_table_Table_Do (d + 0) q1, ?_⟩
  refine ⟨by decide, ?_⟩
  obtain ⟨q2, h⟩ := bget hx2 h
  refine ⟨s_table_Table_Do_2 (d + 0) q2, ?_⟩
  refine ⟨by decide, ?_⟩
  refine ⟨fun hb => ?_, fun hb => ?_⟩
  · have h := cond_t hb h
    refine ⟨fun hb => ?_, fun hb => ?_⟩
    · have h := cond_t hb h
      obtain ⟨q3, h⟩ := bget hx3 h
      refine ⟨s_table_Table_Len (d + 5) q3, ?_⟩
      refine ⟨by decide, ?_⟩
      exact lff_of h
    · have h := cond_f hb h
      exact lff_of h
  · have h := cond_f hb h
    exact lff_of h

/- (*osmosis/table.Table).Len -/
def table_Table_Len_2 (t : table_Table) : Option (Int) :=
  some (t.l.length : Int)
def out_table_Table_Len_2 (t : table_Table) (r : Int) : AV × WH := ((.int .i64 r), [(some (.cells (e_table_Table t) false false))])

theorem s_table_Table_Len_2 (d : Nat) {t : table_Table} {r : Int} (h : table_Table_Len_2 t = some r) : Spec (wcalls atab (d + 1)) 53 [(.ptr (some (0, 0)))] [(some (.cells (e_table_Table t) false false))] (out_table_Table_Len_2 t r).1 (out_table_Table_Len_2 t r).2 := by
  have e : ∀ C : ACalls, wBody C (fun _ => none) KK WF53 [(.ptr (some (0, 0)))] [(some (.cells (e_table_Table t) false false))] (.fin (some false) [] none) (out_table_Table_Len_2 t r).1 (out_table_Table_Len_2 t r).2 = (1 = 1 ∧ 1 ≤ 8 ∧ lff (out_table_Table_Len_2 t) (t.l.length : Int) r) := fun C => by kernel_rfl
  refine spec_of (fun _ _ h => by cases h) rfl atab_53 WF53_ok ((e _).mpr ⟨rfl, by decide, ?_⟩)
  unfold table_Table_Len_2 at h
  exact lff_of h

end Go.Proofs.Ytachollgbplikaa
