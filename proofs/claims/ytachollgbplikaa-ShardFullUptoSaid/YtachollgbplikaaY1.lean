/- Functions as Lean functions, part 1. -/
import Derived.Test.YtachollgbplikaaXt
import Derived.Test.YtachollgbplikaaXs
set_option linter.all false
set_option maxRecDepth 100000
namespace Go.Proofs.Ytachollgbplikaa
/- osmosis/osmosishand.Pick -/
def osmosishand_Pick (n : Int) (m : Int) : Option (Int) :=
  (remI .i64 n m).bind fun (x1 : Int) => cond (decide (x1 < 0)) (some (IntKind.i64.wrap (x1 + m))) (some x1)
def out_osmosishand_Pick (n : Int) (m : Int) (r : Int) : AV × WH := ((.int .i64 r), [])

theorem s_osmosishand_Pick (d : Nat) {n : Int} {m : Int} {r : Int} (h : osmosishand_Pick n m = some r) : Spec (wcalls atab (d + 1)) 28 [(.int .i64 n), (.int .i64 m)] [] (out_osmosishand_Pick n m r).1 (out_osmosishand_Pick n m r).2 := by
  obtain ⟨x1, hx1⟩ := wx (remI .i64 n m)
  have e : ∀ C : ACalls, wBody C (fun _ => none) KK WF28 [(.int .i64 n), (.int .i64 m)] [] (.v 7 (.int .i64 x1) (.br 9 (.fin (some false) [] none) (.fin (some false) [] none))) (out_osmosishand_Pick n m r).1 (out_osmosishand_Pick n m r).2 = (2 = 2 ∧ 2 ≤ 14 ∧ (aInts .rem .i64 n m = some (.int .i64 x1) ∧ (((decide (x1 < 0)) = true → lff (out_osmosishand_Pick n m) (IntKind.i64.wrap (x1 + m)) r) ∧ ((decide (x1 < 0)) = false → lff (out_osmosishand_Pick n m) x1 r)))) := fun C => by kernel_rfl
  refine spec_of (fun _ _ h => by cases h) rfl atab_28 WF28_ok ((e _).mpr ⟨rfl, by decide, ?_⟩)
  unfold osmosishand_Pick at h
  obtain ⟨q1, h⟩ := bget hx1 h
  refine ⟨wP_rem q1, ?_⟩
  refine ⟨fun hb => ?_, fun hb => ?_⟩
  · have h := cond_t hb h
    exact lff_of h
  · have h := cond_f hb h
    exact lff_of h

/- osmosis/table.Right -/
abbrev in_table_Right_J0 (o : api_Op) : Fast × WH := ([(1, (.ptr (some (0, 0))))], [(some (.cells (e_api_Op o) false false))])
def fin_table_Right_J0 (o : api_Op) : Bool → Ex × Fast × WH := fun e => (.normal, [(1, (.ptr (some (0, 0)))), (3, (.bool e))], [(some (.cells (e_api_Op o) false false))])
def table_Right_J0 (o : api_Op) : Option (Bool) :=
  cond (o.Kind == 2) (some true) (some (o.Kind == 4))
theorem s_table_Right_J0 (d : Nat) {o : api_Op} {r : Bool} (h : table_Right_J0 o = some r) : RunX (bexec (wcalls atab (d + 0)) KK 53 WJ57_ba) 0 (in_table_Right_J0 o) (fin_table_Right_J0 o r) := by
  have e : ∀ C : ACalls, wCode C (fun _ => none) KK 53 0 WJ57_ba (in_table_Right_J0 o).1 (in_table_Right_J0 o).2 (.br 7 (.en [1, 3] [none, none] [] []) (.en [1, 3] [none, none] [] [])) (fin_table_Right_J0 o r) = (((o.Kind == 2) = true → lfe (fin_table_Right_J0 o) true r) ∧ ((o.Kind == 2) = false → lfe (fin_table_Right_J0 o) (o.Kind == 4) r)) := fun C => by kernel_rfl
  refine runS_of (fun _ _ h => by cases h) WJ57_ba_ok (Nat.le_of_ble_eq_true rfl) ((e _).mpr ?_)
  unfold table_Right_J0 at h
  refine ⟨fun hb => ?_, fun hb => ?_⟩
  · have h := cond_t hb h
    exact lfe_of h
  · have h := cond_f hb h
    exact lfe_of h

abbrev in_table_Right_J1 (o : api_Op) (x1 : Bool) : Fast × WH := ([(1, (.ptr (some (0, 0)))), (3, (.bool x1))], [(some (.cells (e_api_Op o) false false))])
def fin_table_Right_J1 (o : api_Op) (x1 : Bool) : Bool → Ex × Fast × WH := fun e => (.normal, [(1, (.ptr (some (0, 0)))), (3, (.bool x1)), (12, (.bool e))], [(some (.cells (e_api_Op o) false false))])
def table_Right_J1 (o : api_Op) (x1 : Bool) : Option (Bool) :=
  cond (decide (o.Kind < 1)) (some true) (some (decide (o.Kind > 4)))
theorem s_table_Right_J1 (d : Nat) {o : api_Op} {x1 : Bool} {r : Bool} (h : table_Right_J1 o x1 = some r) : RunX (bexec (wcalls atab (d + 0)) KK 53 WJ57_bbakaa) 0 (in_table_Right_J1 o x1) (fin_table_Right_J1 o x1 r) := by
  have e : ∀ C : ACalls, wCode C (fun _ => none) KK 53 0 WJ57_bbakaa (in_table_Right_J1 o x1).1 (in_table_Right_J1 o x1).2 (.br 16 (.en [1, 3, 12] [none, none, none] [] []) (.en [1, 3, 12] [none, none, none] [] [])) (fin_table_Right_J1 o x1 r) = (((decide (o.Kind < 1)) = true → lfe (fin_table_Right_J1 o x1) true r) ∧ ((decide (o.Kind < 1)) = false → lfe (fin_table_Right_J1 o x1) (decide (o.Kind > 4)) r)) := fun C => by kernel_rfl
  refine runS_of (fun _ _ h => by cases h) WJ57_bbakaa_ok (Nat.le_of_ble_eq_true rfl) ((e _).mpr ?_)
  unfold table_Right_J1 at h
  refine ⟨fun hb => ?_, fun hb => ?_⟩
  · have h := cond_t hb h
    exact lfe_of h
  · have h := cond_f hb h
    exact lfe_of h

abbrev in_table_Right_J2 (o : api_Op) (x1 : Bool) : Fast × WH := ([(1, (.ptr (some (0, 0)))), (3, (.bool x1))], [(some (.cells (e_api_Op o) false false))])
def fin_table_Right_J2 (o : api_Op) (x1 : Bool) : Bool → Ex × Fast × WH := fun e => (.normal, [(1, (.ptr (some (0, 0)))), (3, (.bool x1)), (12, (.bool e))], [(some (.cells (e_api_Op o) false false))])
def table_Right_J2 (o : api_Op) (x1 : Bool) : Option (Bool) :=
  (table_Right_J1 o x1).bind fun (x2 : Bool) => cond x2 (some true) (cond (o.Key == ([] : List UInt8)) (some true) (some (decide ((o.Key.length : Int) > 8))))
theorem s_table_Right_J2 (d : Nat) {o : api_Op} {x1 : Bool} {r : Bool} (h : table_Right_J2 o x1 = some r) : RunX (bexec (wcalls atab (d + 0)) KK 53 WJ57_bbaka) 0 (in_table_Right_J2 o x1) (fin_table_Right_J2 o x1 r) := by
  obtain ⟨x2, hx2⟩ := wx (table_Right_J1 o x1)
  have e : ∀ C : ACalls, wCode C (fun _ => none) KK 53 0 WJ57_bbaka (in_table_Right_J2 o x1).1 (in_table_Right_J2 o x1).2 (.jn [1, 3] [none, none] [] [] .normal [(1, (.ptr (some (0, 0)))), (3, (.bool x1)), (12, (.bool x2))] [(some (.cells (e_api_Op o) false false))] (.br 12 (.en [1, 3, 12] [none, none, none] [] []) (.br 12 (.en [1, 3, 12] [none, none, none] [] []) (.en [1, 3, 12] [none, none, none] [] [])))) (fin_table_Right_J2 o x1 r) = (RunS (bexec C KK 53 WJ57_bbakaa) 0 [(1, (.ptr (some (0, 0)))), (3, (.bool x1))] [(some (.cells (e_api_Op o) false false))] .normal [(1, (.ptr (some (0, 0)))), (3, (.bool x1)), (12, (.bool x2))] [(some (.cells (e_api_Op o) false false))] ∧ ((x2 = true → lfe (fin_table_Right_J2 o x1) true r) ∧ (x2 = false → (((o.Key == ([] : List UInt8)) = true → lfe (fin_table_Right_J2 o x1) true r) ∧ ((o.Key == ([] : List UInt8)) = false → lfe (fin_table_Right_J2 o x1) (decide ((o.Key.length : Int) > 8)) r))))) := fun C => by kernel_rfl
  refine runS_of (fun _ _ h => by cases h) WJ57_bbaka_ok (Nat.le_of_ble_eq_true rfl) ((e _).mpr ?_)
  unfold table_Right_J2 at h
  obtain ⟨q2, h⟩ := bget hx2 h
  refine ⟨s_table_Right_J1 (d + 0) q2, ?_⟩
  refine ⟨fun hb => ?_, fun hb => ?_⟩
  · have h := cond_t hb h
    exact lfe_of h
  · have h := cond_f hb h
    refine ⟨fun hb => ?_, fun hb => ?_⟩
    · have h := cond_t hb h
      exact lfe_of h
    · have h := cond_f hb h
      exact lfe_of h

abbrev in_table_Right_J3 (o : api_Op) (x1 : Bool) : Fast × WH := ([(1, (.ptr (some (0, 0)))), (3, (.bool x1))], [(some (.cells (e_api_Op o) false false))])
def fin_table_Right_J3 (o : api_Op) (x1 : Bool) : Unit ⊕ Unit → Ex × Fast × WH := fun
  | .inl e => (.ret, [(2, (.bool false))], [])
  | .inr e => (.normal, [(1, (.ptr (some (0, 0)))), (3, (.bool x1))], [(some (.cells (e_api_Op o) false false))])
def table_Right_J3 (o : api_Op) (x1 : Bool) : Option (Unit ⊕ Unit) :=
  (table_Right_J2 o x1).bind fun (x3 : Bool) => cond x3 (some (.inl ())) (cond (decide ((o.Value.length : Int) > 16)) (some (.inl ())) (cond (decide ((o.Old.length : Int) > 16)) (some (.inl ())) (some (.inr ()))))
theorem s_table_Right_J3 (d : Nat) {o : api_Op} {x1 : Bool} {r : Unit ⊕ Unit} (h : table_Right_J3 o x1 = some r) : RunX (bexec (wcalls atab (d + 0)) KK 53 WJ57_bba) 0 (in_table_Right_J3 o x1) (fin_table_Right_J3 o x1 r) := by
  obtain ⟨x3, hx3⟩ := wx (table_Right_J2 o x1)
  have e : ∀ C : ACalls, wCode C (fun _ => none) KK 53 0 WJ57_bba (in_table_Right_J3 o x1).1 (in_table_Right_J3 o x1).2 (.jn [1, 3] [none, none] [] [] .normal [(1, (.ptr (some (0, 0)))), (3, (.bool x1)), (12, (.bool x3))] [(some (.cells (e_api_Op o) false false))] (.br 12 (.en [2] [none] [] []) (.br 28 (.en [2] [none] [] []) (.br 28 (.en [2] [none] [] []) (.en [1, 3] [none, none] [] []))))) (fin_table_Right_J3 o x1 r) = (RunS (bexec C KK 53 WJ57_bbaka) 0 [(1, (.ptr (some (0, 0)))), (3, (.bool x1))] [(some (.cells (e_api_Op o) false false))] .normal [(1, (.ptr (some (0, 0)))), (3, (.bool x1)), (12, (.bool x3))] [(some (.cells (e_api_Op o) false false))] ∧ ((x3 = true → lfe (fin_table_Right_J3 o x1) (.inl ()) r) ∧ (x3 = false → (((decide ((o.Value.length : Int) > 16)) = true → lfe (fin_table_Right_J3 o x1) (.inl ()) r) ∧ ((decide ((o.Value.length : Int) > 16)) = false → (((decide ((o.Old.length : Int) > 16)) = true → lfe (fin_table_Right_J3 o x1) (.inl ()) r) ∧ ((decide ((o.Old.length : Int) > 16)) = false → lfe (fin_table_Right_J3 o x1) (.inr ()) r))))))) := fun C => by kernel_rfl
  refine runS_of (fun _ _ h => by cases h) WJ57_bba_ok (Nat.le_of_ble_eq_true rfl) ((e _).mpr ?_)
  unfold table_Right_J3 at h
  obtain ⟨q3, h⟩ := bget hx3 h
  refine ⟨s_table_Right_J2 (d + 0) q3, ?_⟩
  refine ⟨fun hb => ?_, fun hb => ?_⟩
  · have h := cond_t hb h
    exact lfe_of h
  · have h := cond_f hb h
    refine ⟨fun hb => ?_, fun hb => ?_⟩
    · have h := cond_t hb h
      exact lfe_of h
    · have h := cond_f hb h
      refine ⟨fun hb => ?_, fun hb => ?_⟩
      · have h := cond_t hb h
        exact lfe_of h
      · have h := cond_f hb h
        exact lfe_of h

def table_Right (o : api_Op) : Option (Bool) :=
  (table_Right_J0 o).bind fun (x1 : Bool) => (table_Right_J3 o x1).bind fun (x4 : Unit ⊕ Unit) => cond (isL x4) (some false) (cond x1 (cond (o.Kind == 4) (some true) (some (o.Old == ([] : List UInt8)))) (cond (o.Value == ([] : List UInt8)) (cond (o.Kind == 4) (some true) (some (o.Old == ([] : List UInt8)))) (some false)))
def out_table_Right (o : api_Op) (r : Bool) : AV × WH := ((.bool r), [])

theorem s_table_Right (d : Nat) {o : api_Op} {r : Bool} (h : table_Right o = some r) : Spec (wcalls atab (d + 1)) 57 [(.agg (e_api_Op o))] [] (out_table_Right o r).1 (out_table_Right o r).2 := by
  obtain ⟨x1, hx1⟩ := wx (table_Right_J0 o)
  obtain ⟨x4, hx4⟩ := wx (table_Right_J3 o x1)
  have e : ∀ C : ACalls, wBody C (fun _ => none) KK WF57 [(.agg (e_api_Op o))] [] (.sk (.jn [1] [none] [] [] .normal [(1, (.ptr (some (0, 0)))), (3, (.bool x1))] [(some (.cells (e_api_Op o) false false))] (.ite (isL x4) (.jn [1, 3] [none, none] [] [] .ret [(2, (.bool false))] [] (.fin (some false) [] none)) (.jn [1, 3] [none, none] [] [] .normal [(1, (.ptr (some (0, 0)))), (3, (.bool x1))] [(some (.cells (e_api_Op o) false false))] (.br 38 (.br 47 (.fin (some false) [] none) (.fin (some false) [] none)) (.br 43 (.br 47 (.fin (some false) [] none) (.fin (some false) [] none)) (.fin (some false) [] none))))))) (out_table_Right o r).1 (out_table_Right o r).2 = (1 = 1 ∧ 1 ≤ 53 ∧ (RunS (bexec C KK 53 WJ57_ba) 0 [(1, (.ptr (some (0, 0))))] [(some (.cells (e_api_Op o) false false))] .normal [(1, (.ptr (some (0, 0)))), (3, (.bool x1))] [(some (.cells (e_api_Op o) false false))] ∧ (((isL x4) = true → (RunS (bexec C KK 53 WJ57_bba) 0 [(1, (.ptr (some (0, 0)))), (3, (.bool x1))] [(some (.cells (e_api_Op o) false false))] .ret [(2, (.bool false))] [] ∧ lff (out_table_Right o) false r)) ∧ ((isL x4) = false → (RunS (bexec C KK 53 WJ57_bba) 0 [(1, (.ptr (some (0, 0)))), (3, (.bool x1))] [(some (.cells (e_api_Op o) false false))] .normal [(1, (.ptr (some (0, 0)))), (3, (.bool x1))] [(some (.cells (e_api_Op o) false false))] ∧ ((x1 = true → (((o.Kind == 4) = true → lff (out_table_Right o) true r) ∧ ((o.Kind == 4) = false → lff (out_table_Right o) (o.Old == ([] : List UInt8)) r))) ∧ (x1 = false → (((o.Value == ([] : List UInt8)) = true → (((o.Kind == 4) = true → lff (out_table_Right o) true r) ∧ ((o.Kind == 4) = false → lff (out_table_Right o) (o.Old == ([] : List UInt8)) r))) ∧ ((o.Value == ([] : List UInt8)) = false → lff (out_table_Right o) false r))))))))) := fun C => by kernel_rfl
  refine spec_of (fun _ _ h => by cases h) rfl atab_57 WF57_ok ((e _).mpr ⟨rfl, by decide, ?_⟩)
  unfold table_Right at h
  obtain ⟨q1, h⟩ := bget hx1 h
  refine ⟨s_table_Right_J0 (d + 0) q1, ?_⟩
  obtain ⟨q4, h⟩ := bget hx4 h
  refine ⟨fun hb5 => ?_, fun hb5 => ?_⟩
  · have h := cond_t hb5 h
    refine ⟨by have h := s_table_Right_J3 (d + 0) q4; rw [isL_t hb5] at h; exact h, ?_⟩
    exact lff_of h
  · have h := cond_f hb5 h
    refine ⟨by have h := s_table_Right_J3 (d + 0) q4; rw [isL_f hb5] at h; exact h, ?_⟩
    refine ⟨fun hb => ?_, fun hb => ?_⟩
    · have h := cond_t hb h
      refine ⟨fun hb => ?_, fun hb => ?_⟩
      · have h := cond_t hb h
        exact lff_of h
      · have h := cond_f hb h
        exact lff_of h
    · have h := cond_f hb h
      refine ⟨fun hb => ?_, fun hb => ?_⟩
      · have h := cond_t hb h
        refine ⟨fun hb => ?_, fun hb => ?_⟩
        · have h := cond_t hb h
          exact lff_of h
        · have h := cond_f hb h
          exact lff_of h
      · have h := cond_f hb h
        exact lff_of h

/- cmp.isNaN[string] -/
def cmp_isNaN_string (a0 : List UInt8) : Option (Bool) :=
  some (!(a0 == a0))
def out_cmp_isNaN_string (a0 : List UInt8) (r : Bool) : AV × WH := ((.bool r), [])

theorem s_cmp_isNaN_string (d : Nat) {a0 : List UInt8} {r : Bool} (h : cmp_isNaN_string a0 = some r) : Spec (wcalls atab (d + 1)) 136 [(.str a0)] [] (out_cmp_isNaN_string a0 r).1 (out_cmp_isNaN_string a0 r).2 := by
  have e : ∀ C : ACalls, wBody C (fun _ => none) KK WF136 [(.str a0)] [] (.fin (some false) [] none) (out_cmp_isNaN_string a0 r).1 (out_cmp_isNaN_string a0 r).2 = (1 = 1 ∧ 1 ≤ 6 ∧ lff (out_cmp_isNaN_string a0) (!(a0 == a0)) r) := fun C => by kernel_rfl
  refine spec_of (fun _ _ h => by cases h) rfl atab_136 WF136_ok ((e _).mpr ⟨rfl, by decide, ?_⟩)
  unfold cmp_isNaN_string at h
  exact lff_of h

/- cmp.Compare[string] -/
def cmp_Compare_string (a0 : List UInt8) (a1 : List UInt8) : Option (Int) :=
  (cmp_isNaN_string a0).bind fun (x1 : Bool) => (cmp_isNaN_string a1).bind fun (x2 : Bool) => cond x1 (cond x2 (some 0) (some (-1))) (cond x2 (some 1) (cond (Op.bytesLess a0 a1) (some (-1)) (cond (!(Op.bytesLess a0 a1 || a0 == a1)) (some 1) (some 0))))
def out_cmp_Compare_string (a0 : List UInt8) (a1 : List UInt8) (r : Int) : AV × WH := ((.int .i64 r), [])

theorem s_cmp_Compare_string (d : Nat) {a0 : List UInt8} {a1 : List UInt8} {r : Int} (h : cmp_Compare_string a0 a1 = some r) : Spec (wcalls atab (d + 2)) 128 [(.str a0), (.str a1)] [] (out_cmp_Compare_string a0 a1 r).1 (out_cmp_Compare_string a0 a1 r).2 := by
  obtain ⟨x1, hx1⟩ := wx (cmp_isNaN_string a0)
  obtain ⟨x2, hx2⟩ := wx (cmp_isNaN_string a1)
  have e : ∀ C : ACalls, wBody C (fun _ => none) KK WF128 [(.str a0), (.str a1)] [] (.cb [] [] (.bool x1) (.cb [] [] (.bool x2) (.br 11 (.br 12 (.fin (some false) [] none) (.fin (some false) [] none)) (.br 13 (.fin (some false) [] none) (.br 16 (.fin (some false) [] none) (.br 19 (.fin (some false) [] none) (.fin (some false) [] none))))))) (out_cmp_Compare_string a0 a1 r).1 (out_cmp_Compare_string a0 a1 r).2 = (2 = 2 ∧ 2 ≤ 20 ∧ (Spec C 136 [(.str a0)] [] (.bool x1) [] ∧ (Spec C 136 [(.str a1)] [] (.bool x2) [] ∧ ((x1 = true → ((x2 = true → lff (out_cmp_Compare_string a0 a1) 0 r) ∧ (x2 = false → lff (out_cmp_Compare_string a0 a1) (-1) r))) ∧ (x1 = false → ((x2 = true → lff (out_cmp_Compare_string a0 a1) 1 r) ∧ (x2 = false → (((Op.bytesLess a0 a1) = true → lff (out_cmp_Compare_string a0 a1) (-1) r) ∧ ((Op.bytesLess a0 a1) = false → (((!(Op.bytesLess a0 a1 || a0 == a1)) = true → lff (out_cmp_Compare_string a0 a1) 1 r) ∧ ((!(Op.bytesLess a0 a1 || a0 == a1)) = false → lff (out_cmp_Compare_string a0 a1) 0 r))))))))))) := fun C => by kernel_rfl
  refine spec_of (fun _ _ h => by cases h) rfl atab_128 WF128_ok ((e _).mpr ⟨rfl, by decide, ?_⟩)
  unfold cmp_Compare_string at h
  obtain ⟨q1, h⟩ := bget hx1 h
  refine ⟨s_cmp_isNaN_string (d + 0) q1, ?_⟩
  obtain ⟨q2, h⟩ := bget hx2 h
  refine ⟨s_cmp_isNaN_string (d + 0) q2, ?_⟩
  refine ⟨fun hb => ?_, fun hb => ?_⟩
  · have h := cond_t hb h
    refine ⟨fun hb => ?_, fun hb => ?_⟩
    · have h := cond_t hb h
      exact lff_of h
    · have h := cond_f hb h
      exact lff_of h
  · have h := cond_f hb h
    refine ⟨fun hb => ?_, fun hb => ?_⟩
    · have h := cond_t hb h
      exact lff_of h
    · have h := cond_f hb h
      refine ⟨fun hb => ?_, fun hb => ?_⟩
      · have h := cond_t hb h
        exact lff_of h
      · have h := cond_f hb h
        refine ⟨fun hb => ?_, fun hb => ?_⟩
        · have h := cond_t hb h
          exact lff_of h
        · have h := cond_f hb h
          exact lff_of h

/- (*osmosis/table.Table).find$1 -/
def table_Table_find_1 (p : api_Pair) (key : List UInt8) : Option (Int) :=
  (cmp_Compare_string p.Key key).bind fun (x1 : Int) => some x1
def out_table_Table_find_1 (p : api_Pair) (key : List UInt8) (r : Int) : AV × WH := ((.int .i64 r), [])

theorem s_table_Table_find_1 (d : Nat) {p : api_Pair} {key : List UInt8} {r : Int} (h : table_Table_find_1 p key = some r) : Spec (wcalls atab (d + 3)) 127 [(.agg (e_api_Pair p)), (.str key)] [] (out_table_Table_find_1 p key r).1 (out_table_Table_find_1 p key r).2 := by
  obtain ⟨x1, hx1⟩ := wx (cmp_Compare_string p.Key key)
  have e : ∀ C : ACalls, wBody C (fun _ => none) KK WF127 [(.agg (e_api_Pair p)), (.str key)] [] (.cb [] [] (.int .i64 x1) (.fin (some false) [] none)) (out_table_Table_find_1 p key r).1 (out_table_Table_find_1 p key r).2 = (2 = 2 ∧ 2 ≤ 9 ∧ (Spec C 128 [(.str p.Key), (.str key)] [] (.int .i64 x1) [] ∧ lff (out_table_Table_find_1 p key) x1 r)) := fun C => by kernel_rfl
  refine spec_of (fun _ _ h => by cases h) rfl atab_127 WF127_ok ((e _).mpr ⟨rfl, by decide, ?_⟩)
  unfold table_Table_find_1 at h
  obtain ⟨q1, h⟩ := bget hx1 h
  refine ⟨s_cmp_Compare_string (d + 0) q1, ?_⟩
  exact lff_of h

/- slices.BinarySearchFunc[[]osmosis/api.Pair,osmosis/api.Pair,string] -/
def st_slices_BinarySearchFunc_api_Pair_api_Pair_string_L0 (a0 : List api_Pair) (a1 : List UInt8) (s3 : Int × Int) : List AV × WH := ([(l_api_Pair a0), (.str a1), (.func 127 []), (.int .i64 (a0.length : Int)), (.int .i64 s3.1), (.int .i64 s3.2)], [])
def fin_slices_BinarySearchFunc_api_Pair_api_Pair_string_L0 (a0 : List api_Pair) (a1 : List UInt8) : Int → Ex × Fast × WH := fun e => ((.exit 0), [(0, (l_api_Pair a0)), (1, (.str a1)), (2, (.func 127 [])), (8, (.int .i64 (a0.length : Int))), (9, (.int .i64 e))], [])
abbrev rx_slices_BinarySearchFunc_api_Pair_api_Pair_string_L0 (a0 : List api_Pair) (a1 : List UInt8) := roundX [0, 1, 2, 8, 9, 10] (st_slices_BinarySearchFunc_api_Pair_api_Pair_string_L0 a0 a1) (fin_slices_BinarySearchFunc_api_Pair_api_Pair_string_L0 a0 a1)
def slices_BinarySearchFunc_api_Pair_api_Pair_string_L0_s (a0 : List api_Pair) (a1 : List UInt8) (s3 : Int × Int) : Option ((Int × Int) ⊕ (Int)) :=
  cond (decide (s3.1 < s3.2)) ((getI a0 (IntKind.i64.wrap (shrV .u64 (IntKind.u64.wrap (IntKind.i64.wrap (s3.1 + s3.2))) 1))).bind fun (x4 : api_Pair) => (table_Table_find_1 x4 a1).bind fun (x5 : Int) => cond (decide (x5 < 0)) (some (.inl ((IntKind.i64.wrap ((IntKind.i64.wrap (shrV .u64 (IntKind.u64.wrap (IntKind.i64.wrap (s3.1 + s3.2))) 1)) + 1)), s3.2))) (some (.inl (s3.1, (IntKind.i64.wrap (shrV .u64 (IntKind.u64.wrap (IntKind.i64.wrap (s3.1 + s3.2))) 1)))))) (some (.inr s3.1))
def slices_BinarySearchFunc_api_Pair_api_Pair_string_L0 (a0 : List api_Pair) (a1 : List UInt8) (s3 : Int × Int) : Option (Int) := loopX (slices_BinarySearchFunc_api_Pair_api_Pair_string_L0_s a0 a1) KK s3
theorem b_slices_BinarySearchFunc_api_Pair_api_Pair_string_L0 (d : Nat) {a0 : List api_Pair} {a1 : List UInt8} {s3 : Int × Int} {r : (Int × Int) ⊕ (Int)} (h : slices_BinarySearchFunc_api_Pair_api_Pair_string_L0_s a0 a1 s3 = some r) : RunX (bexec (wcalls atab (d + 3)) KK 49 WB126_0) 0 (inL [0, 1, 2, 8, 9, 10] (st_slices_BinarySearchFunc_api_Pair_api_Pair_string_L0 a0 a1 s3)) (rx_slices_BinarySearchFunc_api_Pair_api_Pair_string_L0 a0 a1 r) := by
  obtain ⟨x4, hx4⟩ := wx (getI a0 (IntKind.i64.wrap (shrV .u64 (IntKind.u64.wrap (IntKind.i64.wrap (s3.1 + s3.2))) 1)))
  obtain ⟨x5, hx5⟩ := wx (table_Table_find_1 x4 a1)
  have e : ∀ C : ACalls, wCode C (fun _ => none) KK 49 0 WB126_0 (inL [0, 1, 2, 8, 9, 10] (st_slices_BinarySearchFunc_api_Pair_api_Pair_string_L0 a0 a1 s3)).1 (inL [0, 1, 2, 8, 9, 10] (st_slices_BinarySearchFunc_api_Pair_api_Pair_string_L0 a0 a1 s3)).2 (.br 17 (.v 27 (.elem ((e_api_Pair x4) ++ F_api_Pair (a0.drop ((IntKind.i64.wrap (shrV .u64 (IntKind.u64.wrap (IntKind.i64.wrap (s3.1 + s3.2))) 1)).toNat + 1)))) (.cb [] [] (.int .i64 x5) (.br 31 (.en [0, 1, 2, 8, 9, 10] [none, none, none, none, none, none] [] [.slice none 2 0 0 true, .undef, .undef, .undef, .undef, .undef]) (.en [0, 1, 2, 8, 9, 10] [none, none, none, none, none, none] [] [.slice none 2 0 0 true, .undef, .undef, .undef, .undef, .undef])))) (.en [0, 1, 2, 8, 9] [none, none, none, none, none] [] [.slice none 2 0 0 true, .undef, .undef, .undef, .undef])) (rx_slices_BinarySearchFunc_api_Pair_api_Pair_string_L0 a0 a1 r) = (((decide (s3.1 < s3.2)) = true → (wP (.idxSlice 2 (.c (l_api_Pair a0)) (.c (.int .i64 (IntKind.i64.wrap (shrV .u64 (IntKind.u64.wrap (IntKind.i64.wrap (s3.1 + s3.2))) 1))))) = some (.elem ((e_api_Pair x4) ++ F_api_Pair (a0.drop ((IntKind.i64.wrap (shrV .u64 (IntKind.u64.wrap (IntKind.i64.wrap (s3.1 + s3.2))) 1)).toNat + 1)))) ∧ (Spec C 127 [(.agg (e_api_Pair x4)), (.str a1)] [] (.int .i64 x5) [] ∧ (((decide (x5 < 0)) = true → lfe (rx_slices_BinarySearchFunc_api_Pair_api_Pair_string_L0 a0 a1) (.inl ((IntKind.i64.wrap ((IntKind.i64.wrap (shrV .u64 (IntKind.u64.wrap (IntKind.i64.wrap (s3.1 + s3.2))) 1)) + 1)), s3.2)) r) ∧ ((decide (x5 < 0)) = false → lfe (rx_slices_BinarySearchFunc_api_Pair_api_Pair_string_L0 a0 a1) (.inl (s3.1, (IntKind.i64.wrap (shrV .u64 (IntKind.u64.wrap (IntKind.i64.wrap (s3.1 + s3.2))) 1)))) r))))) ∧ ((decide (s3.1 < s3.2)) = false → lfe (rx_slices_BinarySearchFunc_api_Pair_api_Pair_string_L0 a0 a1) (.inr s3.1) r)) := fun C => by kernel_rfl
  refine runS_of (fun _ _ h => by cases h) WB126_0_ok (Nat.le_of_ble_eq_true rfl) ((e _).mpr ?_)
  unfold slices_BinarySearchFunc_api_Pair_api_Pair_string_L0_s at h
  refine ⟨fun hb => ?_, fun hb => ?_⟩
  · have h := cond_t hb h
    obtain ⟨q4, h⟩ := bget hx4 h
    refine ⟨wP_idx R_api_Pair q4, ?_⟩
    obtain ⟨q5, h⟩ := bget hx5 h
    refine ⟨s_table_Table_find_1 (d + 0) q5, ?_⟩
    refine ⟨fun hb => ?_, fun hb => ?_⟩
    · have h := cond_t hb h
      exact lfe_of h
    · have h := cond_f hb h
      exact lfe_of h
  · have h := cond_f hb h
    exact lfe_of h
theorem s_slices_BinarySearchFunc_api_Pair_api_Pair_string_L0 (d : Nat) {a0 : List api_Pair} {a1 : List UInt8} {s3 : Int × Int} {r : Int} (h : slices_BinarySearchFunc_api_Pair_api_Pair_string_L0 a0 a1 s3 = some r) : RunX (bloop (bexec (wcalls atab (d + 3)) KK 49 WB126_0) [0, 1, 2, 8, 9, 10] KK) 0 (inL [0, 1, 2, 8, 9, 10] (st_slices_BinarySearchFunc_api_Pair_api_Pair_string_L0 a0 a1 s3)) (fin_slices_BinarySearchFunc_api_Pair_api_Pair_string_L0 a0 a1 r) :=
  loop_of (st := st_slices_BinarySearchFunc_api_Pair_api_Pair_string_L0 a0 a1) (fin := fin_slices_BinarySearchFunc_api_Pair_api_Pair_string_L0 a0 a1) (step := slices_BinarySearchFunc_api_Pair_api_Pair_string_L0_s a0 a1) (fun e => by (intro h; cases h)) (fun s x h => b_slices_BinarySearchFunc_api_Pair_api_Pair_string_L0 d h) KK s3 r h

def slices_BinarySearchFunc_api_Pair_api_Pair_string (a0 : List api_Pair) (a1 : List UInt8) : Option (Int × Bool) :=
  (slices_BinarySearchFunc_api_Pair_api_Pair_string_L0 a0 a1 (0, (a0.length : Int))).bind fun (x6 : Int) => cond (decide (x6 < (a0.length : Int))) ((getI a0 x6).bind fun (x7 : api_Pair) => (table_Table_find_1 x7 a1).bind fun (x8 : Int) => some (x6, (x8 == 0))) (some (x6, false))
def out_slices_BinarySearchFunc_api_Pair_api_Pair_string (a0 : List api_Pair) (a1 : List UInt8) (r : Int × Bool) : AV × WH := ((.tuple [(.int .i64 r.1), (.bool r.2)]), [])

theorem s_slices_BinarySearchFunc_api_Pair_api_Pair_string (d : Nat) {a0 : List api_Pair} {a1 : List UInt8} {r : Int × Bool} (h : slices_BinarySearchFunc_api_Pair_api_Pair_string a0 a1 = some r) : Spec (wcalls atab (d + 4)) 126 [(l_api_Pair a0), (.str a1), (.func 127 [])] [] (out_slices_BinarySearchFunc_api_Pair_api_Pair_string a0 a1 r).1 (out_slices_BinarySearchFunc_api_Pair_api_Pair_string a0 a1 r).2 := by
  obtain ⟨x6, hx6⟩ := wx (slices_BinarySearchFunc_api_Pair_api_Pair_string_L0 a0 a1 (0, (a0.length : Int)))
  obtain ⟨x7, hx7⟩ := wx (getI a0 x6)
  obtain ⟨x8, hx8⟩ := wx (table_Table_find_1 x7 a1)
  have e : ∀ C : ACalls, wBody C (fun _ => none) KK WF126 [(l_api_Pair a0), (.str a1), (.func 127 [])] [] (.lp [none, none, none, none, none, none] [] [.slice none 2 0 0 true, .undef, .undef, .undef, .undef, .undef] (.exit 0) [(0, (l_api_Pair a0)), (1, (.str a1)), (2, (.func 127 [])), (8, (.int .i64 (a0.length : Int))), (9, (.int .i64 x6))] [] (.br 39 (.v 43 (.elem ((e_api_Pair x7) ++ F_api_Pair (a0.drop (x6.toNat + 1)))) (.cb [] [] (.int .i64 x8) (.fin (some false) [] none))) (.fin (some false) [] none))) (out_slices_BinarySearchFunc_api_Pair_api_Pair_string a0 a1 r).1 (out_slices_BinarySearchFunc_api_Pair_api_Pair_string a0 a1 r).2 = (3 = 3 ∧ 3 ≤ 49 ∧ (RunS (bloop (bexec C KK 49 WB126_0) [0, 1, 2, 8, 9, 10] KK) 0 [(0, (l_api_Pair a0)), (1, (.str a1)), (2, (.func 127 [])), (8, (.int .i64 (a0.length : Int))), (9, (.int .i64 0)), (10, (.int .i64 (a0.length : Int)))] [] (.exit 0) [(0, (l_api_Pair a0)), (1, (.str a1)), (2, (.func 127 [])), (8, (.int .i64 (a0.length : Int))), (9, (.int .i64 x6))] [] ∧ (((decide (x6 < (a0.length : Int))) = true → (wP (.idxSlice 2 (.c (l_api_Pair a0)) (.c (.int .i64 x6))) = some (.elem ((e_api_Pair x7) ++ F_api_Pair (a0.drop (x6.toNat + 1)))) ∧ (Spec C 127 [(.agg (e_api_Pair x7)), (.str a1)] [] (.int .i64 x8) [] ∧ lff (out_slices_BinarySearchFunc_api_Pair_api_Pair_string a0 a1) (x6, (x8 == 0)) r))) ∧ ((decide (x6 < (a0.length : Int))) = false → lff (out_slices_BinarySearchFunc_api_Pair_api_Pair_string a0 a1) (x6, false) r)))) := fun C => by kernel_rfl
  refine spec_of (fun _ _ h => by cases h) rfl atab_126 WF126_ok ((e _).mpr ⟨rfl, by decide, ?_⟩)
  unfold slices_BinarySearchFunc_api_Pair_api_Pair_string at h
  obtain ⟨q6, h⟩ := bget hx6 h
  refine ⟨s_slices_BinarySearchFunc_api_Pair_api_Pair_string_L0 (d + 0) q6, ?_⟩
  refine ⟨fun hb => ?_, fun hb => ?_⟩
  · have h := cond_t hb h
    obtain ⟨q7, h⟩ := bget hx7 h
    refine ⟨wP_idx R_api_Pair q7, ?_⟩
    obtain ⟨q8, h⟩ := bget hx8 h
    refine ⟨s_table_Table_find_1 (d + 0) q8, ?_⟩
    exact lff_of h
  · have h := cond_f hb h
    exact lff_of h

/- (*osmosis/table.Table).set -/
def table_Table_set_2 (k : Int) (value : List UInt8) (p_b1 : List api_Pair) : Option (List api_Pair) :=
  gd (fitsB 32 p_b1.length) ((getI p_b1 k).bind fun (x2 : api_Pair) => some (p_b1.set k.toNat (⟨x2.Key, value⟩ : api_Pair)))
def out_table_Table_set_2 (k : Int) (value : List UInt8) (p_b1 : List api_Pair) (r : List api_Pair) : AV × WH := ((.tuple []), [(some (.cells [(.acc 2 0 2 r.length true)] false false)), (some (.cells (F_api_Pair p_b1) false true)), (some (.cells (F_api_Pair r) false true))])

theorem s_table_Table_set_2 (d : Nat) {k : Int} {value : List UInt8} {p_b1 : List api_Pair} {r : List api_Pair} (h : table_Table_set_2 k value p_b1 = some r) : Spec (wcalls atab (d + 2)) 129 [(.ptr (some (0, 0))), (.int .i64 k), (.str value)] [(some (.cells [(.acc 1 0 2 p_b1.length true)] false false)), (some (.cells (F_api_Pair p_b1) false true))] (out_table_Table_set_2 k value p_b1 r).1 (out_table_Table_set_2 k value p_b1 r).2 := by
  obtain ⟨x2, hx2⟩ := wx (getI p_b1 k)
  have e : ∀ C : ACalls, wBody C wB KK WF129 [(.ptr (some (0, 0))), (.int .i64 k), (.str value)] [(some (.cells [(.acc 1 0 2 p_b1.length true)] false false)), (some (.cells (F_api_Pair p_b1) false true))] (.st none (.v 20 (.ptr (some (2, 0 + k.toNat * 2))) (.st (some (F_api_Pair (p_b1.set k.toNat (⟨x2.Key, value⟩ : api_Pair)))) (.fin (some false) [] none)))) (out_table_Table_set_2 k value p_b1 r).1 (out_table_Table_set_2 k value p_b1 r).2 = (3 = 3 ∧ 3 ≤ 22 ∧ (fitsB 32 p_b1.length = true ∧ (wP (.idxSlice 2 (.c (.acc 2 0 2 p_b1.length true)) (.c (.int .i64 k))) = some (.ptr (some (2, 0 + k.toNat * 2))) ∧ (wrC (F_api_Pair p_b1) (0 + k.toNat * 2 + 1) [(.str value)] = some (F_api_Pair (p_b1.set k.toNat (⟨x2.Key, value⟩ : api_Pair))) ∧ (@Eq AV (.tuple []) (out_table_Table_set_2 k value p_b1 r).1 ∧ @Eq WH [(some (.cells [(.acc 2 0 2 p_b1.length true)] false false)), (some (.cells (F_api_Pair p_b1) false true)), (some (.cells (F_api_Pair (p_b1.set k.toNat (⟨x2.Key, value⟩ : api_Pair))) false true))] (out_table_Table_set_2 k value p_b1 r).2))))) := fun C => by kernel_rfl
  refine spec_of (wB_ok _) rfl atab_129 WF129_ok ((e _).mpr ⟨rfl, by decide, ?_⟩)
  unfold table_Table_set_2 at h
  obtain ⟨q1, h⟩ := gd_some h
  refine ⟨q1, ?_⟩
  obtain ⟨q2, h⟩ := bget hx2 h
  refine ⟨wP_idxA R_api_Pair q2, ?_⟩
  refine ⟨wr_row (o := 1) R_api_Pair q2 rfl, ?_⟩
  try rw [show AV.list 2 p_b1.length (F_api_Pair (p_b1.set k.toNat (⟨x2.Key, value⟩ : api_Pair))) false = l_api_Pair (p_b1.set k.toNat (⟨x2.Key, value⟩ : api_Pair)) from by simp only [l_api_Pair, List.length_set]]
  obtain rfl := Option.some.inj h
  refine ⟨?_, ?_⟩ <;> first | rfl | (simp only [out_table_Table_set_2, List.length_set, List.length_append, List.length_replicate, List.length_cons, List.length_nil, List.length_take, List.length_drop, Nat.add_zero, Nat.zero_add]; done) | simp [out_table_Table_set_2]

/- (*osmosis/table.Table).cas -/
def table_Table_cas_2 (o : api_Op) (k : Int) (p_b1 : List api_Pair) : Option (api_Answer × List api_Pair) :=
  (getI p_b1 k).bind fun (x1 : api_Pair) => cond (!(x1.Value == o.Old)) (some ((⟨6, x1.Value⟩ : api_Answer), p_b1)) ((table_Table_set_2 k o.Value p_b1).bind fun (x2 : List api_Pair) => some ((⟨0, ([] : List UInt8)⟩ : api_Answer), x2))
def out_table_Table_cas_2 (o : api_Op) (k : Int) (p_b1 : List api_Pair) (r : api_Answer × List api_Pair) : AV × WH := ((.agg (e_api_Answer r.1)), [(some (.cells [(.acc 2 0 2 r.2.length true)] false false)), none, (some (.cells (F_api_Pair r.2) false true))])

theorem s_table_Table_cas_2 (d : Nat) {o : api_Op} {k : Int} {p_b1 : List api_Pair} {r : api_Answer × List api_Pair} (h : table_Table_cas_2 o k p_b1 = some r) : Spec (wcalls atab (d + 3)) 98 [(.ptr (some (0, 0))), (.agg (e_api_Op o)), (.int .i64 k)] [(some (.cells [(.acc 1 0 2 p_b1.length true)] false false)), (some (.cells (F_api_Pair p_b1) false true))] (out_table_Table_cas_2 o k p_b1 r).1 (out_table_Table_cas_2 o k p_b1 r).2 := by
  obtain ⟨x1, hx1⟩ := wx (getI p_b1 k)
  obtain ⟨x2, hx2⟩ := wx (table_Table_set_2 k o.Value p_b1)
  have e : ∀ C : ACalls, wBody C (fun _ => none) KK WF98 [(.ptr (some (0, 0))), (.agg (e_api_Op o)), (.int .i64 k)] [(some (.cells [(.acc 1 0 2 p_b1.length true)] false false)), (some (.cells (F_api_Pair p_b1) false true))] (.v 13 (.ptr (some (1, 0 + k.toNat * 2))) (.v 15 (.str x1.Value) (.br 19 (.st none (.fin (some false) [] (some true))) (.call [] none [] (.tuple []) [(some (.cells [(.acc 2 0 2 x2.length true)] false false)), (some (.cells (F_api_Pair p_b1) false true)), (some (.cells (F_api_Pair x2) false true))] (.st none (.kl [1] (.fin (some false) [] (some true)))))))) (out_table_Table_cas_2 o k p_b1 r).1 (out_table_Table_cas_2 o k p_b1 r).2 = (3 = 3 ∧ 3 ≤ 28 ∧ (wP (.idxSlice 2 (.c (.acc 1 0 2 p_b1.length true)) (.c (.int .i64 k))) = some (.ptr (some (1, 0 + k.toNat * 2))) ∧ (cPart false (0 + k.toNat * 2 + 1) 1 (F_api_Pair p_b1) = some (.str x1.Value) ∧ (((!(x1.Value == o.Old)) = true → lff (out_table_Table_cas_2 o k p_b1) ((⟨6, x1.Value⟩ : api_Answer), p_b1) r) ∧ ((!(x1.Value == o.Old)) = false → (Spec C 129 [(.ptr (some (0, 0))), (.int .i64 k), (.str o.Value)] [(some (.cells [(.acc 1 0 2 p_b1.length true)] false false)), (some (.cells (F_api_Pair p_b1) false true))] (.tuple []) [(some (.cells [(.acc 2 0 2 x2.length true)] false false)), (some (.cells (F_api_Pair p_b1) false true)), (some (.cells (F_api_Pair x2) false true))] ∧ (2 ≤ 3 ∧ lff (out_table_Table_cas_2 o k p_b1) ((⟨0, ([] : List UInt8)⟩ : api_Answer), x2) r))))))) := fun C => by kernel_rfl
  refine spec_of (fun _ _ h => by cases h) rfl atab_98 WF98_ok ((e _).mpr ⟨rfl, by decide, ?_⟩)
  unfold table_Table_cas_2 at h
  obtain ⟨q1, h⟩ := bget hx1 h
  refine ⟨wP_idxA R_api_Pair q1, ?_⟩
  refine ⟨cP_row (o := 1) R_api_Pair q1 rfl, ?_⟩
  refine ⟨fun hb => ?_, fun hb => ?_⟩
  · have h := cond_t hb h
    exact lff_of h
  · have h := cond_f hb h
    obtain ⟨q2, h⟩ := bget hx2 h
    refine ⟨s_table_Table_set_2 (d + 0) q2, ?_⟩
    refine ⟨by decide, ?_⟩
    exact lff_of h

/- (*osmosis/table.Table).find -/
def table_Table_find_2 (key : List UInt8) (p_b1 : List api_Pair) : Option (Int × Bool) :=
  (slices_BinarySearchFunc_api_Pair_api_Pair_string p_b1 key).bind fun (x1 : Int × Bool) => some (x1.1, x1.2)
def out_table_Table_find_2 (key : List UInt8) (p_b1 : List api_Pair) (r : Int × Bool) : AV × WH := ((.tuple [(.int .i64 r.1), (.bool r.2)]), [(some (.cells [(.acc 1 0 2 p_b1.length true)] false false)), (some (.cells (F_api_Pair p_b1) false true))])

theorem s_table_Table_find_2 (d : Nat) {key : List UInt8} {p_b1 : List api_Pair} {r : Int × Bool} (h : table_Table_find_2 key p_b1 = some r) : Spec (wcalls atab (d + 5)) 96 [(.ptr (some (0, 0))), (.str key)] [(some (.cells [(.acc 1 0 2 p_b1.length true)] false false)), (some (.cells (F_api_Pair p_b1) false true))] (out_table_Table_find_2 key p_b1 r).1 (out_table_Table_find_2 key p_b1 r).2 := by
  obtain ⟨x1, hx1⟩ := wx (slices_BinarySearchFunc_api_Pair_api_Pair_string p_b1 key)
  have e : ∀ C : ACalls, wBody C (fun _ => none) KK WF96 [(.ptr (some (0, 0))), (.str key)] [(some (.cells [(.acc 1 0 2 p_b1.length true)] false false)), (some (.cells (F_api_Pair p_b1) false true))] (.cb [] [.slice none 2 0 0 true] (.tuple [(.int .i64 x1.1), (.bool x1.2)]) (.fin (some false) [] none)) (out_table_Table_find_2 key p_b1 r).1 (out_table_Table_find_2 key p_b1 r).2 = (2 = 2 ∧ 2 ≤ 14 ∧ (Spec C 126 [(l_api_Pair p_b1), (.str key), (.func 127 [])] [] (.tuple [(.int .i64 x1.1), (.bool x1.2)]) [] ∧ lff (out_table_Table_find_2 key p_b1) (x1.1, x1.2) r)) := fun C => by kernel_rfl
  refine spec_of (fun _ _ h => by cases h) rfl atab_96 WF96_ok ((e _).mpr ⟨rfl, by decide, ?_⟩)
  unfold table_Table_find_2 at h
  obtain ⟨q1, h⟩ := bget hx1 h
  refine ⟨s_slices_BinarySearchFunc_api_Pair_api_Pair_string (d + 0) q1, ?_⟩
  exact lff_of h

/- (*osmosis/table.Table).put -/
def table_Table_put_2 (o : api_Op) (k : Int) (had : Bool) (p_b1 : List api_Pair) : Option (api_Answer × List api_Pair) :=
  cond had ((table_Table_set_2 k o.Value p_b1).bind fun (x1 : List api_Pair) => some ((⟨0, ([] : List UInt8)⟩ : api_Answer), x1)) (cond ((p_b1.length : Int) == 8) (some ((⟨5, ([] : List UInt8)⟩ : api_Answer), p_b1)) (gd (fitsB 32 p_b1.length) (gd (insB 32 k p_b1.length) (some ((⟨0, ([] : List UInt8)⟩ : api_Answer), (insL p_b1 k (⟨o.Key, o.Value⟩ : api_Pair)))))))
def out_table_Table_put_2 (o : api_Op) (k : Int) (had : Bool) (p_b1 : List api_Pair) (r : api_Answer × List api_Pair) : AV × WH := ((.agg (e_api_Answer r.1)), [(some (.cells [(.acc 2 0 2 r.2.length true)] false false)), none, (some (.cells (F_api_Pair r.2) false true))])

theorem s_table_Table_put_2 (d : Nat) {o : api_Op} {k : Int} {had : Bool} {p_b1 : List api_Pair} {r : api_Answer × List api_Pair} (h : table_Table_put_2 o k had p_b1 = some r) : Spec (wcalls atab (d + 3)) 97 [(.ptr (some (0, 0))), (.agg (e_api_Op o)), (.int .i64 k), (.bool had)] [(some (.cells [(.acc 1 0 2 p_b1.length true)] false false)), (some (.cells (F_api_Pair p_b1) false true))] (out_table_Table_put_2 o k had p_b1 r).1 (out_table_Table_put_2 o k had p_b1 r).2 := by
  obtain ⟨x1, hx1⟩ := wx (table_Table_set_2 k o.Value p_b1)
  have e : ∀ C : ACalls, wBody C wB KK WF97 [(.ptr (some (0, 0))), (.agg (e_api_Op o)), (.int .i64 k), (.bool had)] [(some (.cells [(.acc 1 0 2 p_b1.length true)] false false)), (some (.cells (F_api_Pair p_b1) false true))] (.br 25 (.call [] none [] (.tuple []) [(some (.cells [(.acc 2 0 2 x1.length true)] false false)), (some (.cells (F_api_Pair p_b1) false true)), (some (.cells (F_api_Pair x1) false true))] (.st none (.kl [1] (.fin (some false) [] (some true))))) (.br 32 (.st none (.fin (some false) [] (some true))) (.ap 22 (insL p_b1 k (⟨o.Key, o.Value⟩ : api_Pair)).length (F_api_Pair (insL p_b1 k (⟨o.Key, o.Value⟩ : api_Pair))) (.st none (.st none (.kl [1] (.fin (some false) [] (some true)))))))) (out_table_Table_put_2 o k had p_b1 r).1 (out_table_Table_put_2 o k had p_b1 r).2 = (4 = 4 ∧ 4 ≤ 41 ∧ ((had = true → (Spec C 129 [(.ptr (some (0, 0))), (.int .i64 k), (.str o.Value)] [(some (.cells [(.acc 1 0 2 p_b1.length true)] false false)), (some (.cells (F_api_Pair p_b1) false true))] (.tuple []) [(some (.cells [(.acc 2 0 2 x1.length true)] false false)), (some (.cells (F_api_Pair p_b1) false true)), (some (.cells (F_api_Pair x1) false true))] ∧ (2 ≤ 3 ∧ lff (out_table_Table_put_2 o k had p_b1) ((⟨0, ([] : List UInt8)⟩ : api_Answer), x1) r))) ∧ (had = false → ((((p_b1.length : Int) == 8) = true → lff (out_table_Table_put_2 o k had p_b1) ((⟨5, ([] : List UInt8)⟩ : api_Answer), p_b1) r) ∧ (((p_b1.length : Int) == 8) = false → (fitsB 32 p_b1.length = true ∧ ((0 ≤ k ∧ k ≤ ((p_b1.length : Nat) : Int)) ∧ (p_b1.length + 1 = (insL p_b1 k (⟨o.Key, o.Value⟩ : api_Pair)).length ∧ ((F_api_Pair p_b1).take (k.toNat * 2) ++ ([(.str o.Key), (.str o.Value)] ++ (F_api_Pair p_b1).drop (k.toNat * 2)) = F_api_Pair (insL p_b1 k (⟨o.Key, o.Value⟩ : api_Pair)) ∧ (fitsB 32 (insL p_b1 k (⟨o.Key, o.Value⟩ : api_Pair)).length = true ∧ lff (out_table_Table_put_2 o k had p_b1) ((⟨0, ([] : List UInt8)⟩ : api_Answer), (insL p_b1 k (⟨o.Key, o.Value⟩ : api_Pair))) r)))))))))) := fun C => by kernel_rfl
  refine spec_of (wB_ok _) rfl atab_97 WF97_ok ((e _).mpr ⟨rfl, by decide, ?_⟩)
  unfold table_Table_put_2 at h
  refine ⟨fun hb => ?_, fun hb => ?_⟩
  · have h := cond_t hb h
    obtain ⟨q1, h⟩ := bget hx1 h
    refine ⟨s_table_Table_set_2 (d + 0) q1, ?_⟩
    refine ⟨by decide, ?_⟩
    exact lff_of h
  · have h := cond_f hb h
    refine ⟨fun hb => ?_, fun hb => ?_⟩
    · have h := cond_t hb h
      exact lff_of h
    · have h := cond_f hb h
      obtain ⟨q2, h⟩ := gd_some h
      refine ⟨q2, ?_⟩
      obtain ⟨q3, h⟩ := gd_some h
      refine ⟨insB_1 q3, ?_⟩
      refine ⟨insB_2 (l := p_b1) q3, ?_⟩
      refine ⟨ins_row R_api_Pair rfl, ?_⟩
      refine ⟨insB_3 (l := p_b1) q3, ?_⟩
      exact lff_of h

/- (*osmosis/table.Table).Do -/
def table_Table_Do_2 (o : api_Op) (p_b1 : List api_Pair) : Option (api_Answer × List api_Pair) :=
  (table_Right o).bind fun (x1 : Bool) => cond (!x1) (some ((⟨1, ([] : List UInt8)⟩ : api_Answer), p_b1)) ((table_Table_find_2 o.Key p_b1).bind fun (x2 : Int × Bool) => cond (o.Kind == 2) ((table_Table_put_2 o x2.1 x2.2 p_b1).bind fun (x3 : api_Answer × List api_Pair) => some (x3.1, x3.2)) (cond (!x2.2) (some ((⟨4, ([] : List UInt8)⟩ : api_Answer), p_b1)) (cond (o.Kind == 1) ((getI p_b1 x2.1).bind fun (x4 : api_Pair) => some ((⟨0, x4.Value⟩ : api_Answer), p_b1)) (cond (o.Kind == 4) ((table_Table_cas_2 o x2.1 p_b1).bind fun (x5 : api_Answer × List api_Pair) => some (x5.1, x5.2)) (gd (fitsB 32 p_b1.length) (gd (delB x2.1 (IntKind.i64.wrap (x2.1 + 1)) p_b1.length) (some ((⟨0, ([] : List UInt8)⟩ : api_Answer), (delL p_b1 x2.1 (IntKind.i64.wrap (x2.1 + 1)))))))))))
def out_table_Table_Do_2 (o : api_Op) (p_b1 : List api_Pair) (r : api_Answer × List api_Pair) : AV × WH := ((.agg (e_api_Answer r.1)), [(some (.cells [(.acc 2 0 2 r.2.length true)] false false)), none, (some (.cells (F_api_Pair r.2) false true))])

theorem s_table_Table_Do_2 (d : Nat) {o : api_Op} {p_b1 : List api_Pair} {r : api_Answer × List api_Pair} (h : table_Table_Do_2 o p_b1 = some r) : Spec (wcalls atab (d + 6)) 52 [(.ptr (some (0, 0))), (.agg (e_api_Op o))] [(some (.cells [(.acc 1 0 2 p_b1.length true)] false false)), (some (.cells (F_api_Pair p_b1) false true))] (out_table_Table_Do_2 o p_b1 r).1 (out_table_Table_Do_2 o p_b1 r).2 := by
  obtain ⟨x1, hx1⟩ := wx (table_Right o)
  obtain ⟨x2, hx2⟩ := wx (table_Table_find_2 o.Key p_b1)
  obtain ⟨x3, hx3⟩ := wx (table_Table_put_2 o x2.1 x2.2 p_b1)
  obtain ⟨x4, hx4⟩ := wx (getI p_b1 x2.1)
  obtain ⟨x5, hx5⟩ := wx (table_Table_cas_2 o x2.1 p_b1)
  have e : ∀ C : ACalls, wBody C wB KK WF52 [(.ptr (some (0, 0))), (.agg (e_api_Op o))] [(some (.cells [(.acc 1 0 2 p_b1.length true)] false false)), (some (.cells (F_api_Pair p_b1) false true))] (.cb [] [] (.bool x1) (.br 9 (.st none (.fin (some false) [] (some true))) (.call [] none [] (.tuple [(.int .i64 x2.1), (.bool x2.2)]) [(some (.cells [(.acc 1 0 2 p_b1.length true)] false false)), (some (.cells (F_api_Pair p_b1) false true))] (.br 18 (.call [] none [] (.agg (e_api_Answer x3.1)) [(some (.cells [(.acc 2 0 2 x3.2.length true)] false false)), none, (some (.cells (F_api_Pair x3.2) false true))] (.st none (.fin (some false) [] (some true)))) (.br 27 (.st none (.fin (some false) [] (some true))) (.br 31 (.v 40 (.ptr (some (1, 0 + x2.1.toNat * 2))) (.v 42 (.str x4.Value) (.st none (.fin (some false) [] (some true))))) (.br 44 (.call [] none [] (.agg (e_api_Answer x5.1)) [(some (.cells [(.acc 2 0 2 x5.2.length true)] false false)), none, (some (.cells (F_api_Pair x5.2) false true))] (.st none (.fin (some false) [] (some true)))) (.ap 61 (delL p_b1 x2.1 (IntKind.i64.wrap (x2.1 + 1))).length (F_api_Pair (delL p_b1 x2.1 (IntKind.i64.wrap (x2.1 + 1)))) (.st none (.st none (.kl [1] (.fin (some false) [] (some true))))))))))))) (out_table_Table_Do_2 o p_b1 r).1 (out_table_Table_Do_2 o p_b1 r).2 = (2 = 2 ∧ 2 ≤ 65 ∧ (Spec C 57 [(.agg (e_api_Op o))] [] (.bool x1) [] ∧ (((!x1) = true → lff (out_table_Table_Do_2 o p_b1) ((⟨1, ([] : List UInt8)⟩ : api_Answer), p_b1) r) ∧ ((!x1) = false → (Spec C 96 [(.ptr (some (0, 0))), (.str o.Key)] [(some (.cells [(.acc 1 0 2 p_b1.length true)] false false)), (some (.cells (F_api_Pair p_b1) false true))] (.tuple [(.int .i64 x2.1), (.bool x2.2)]) [(some (.cells [(.acc 1 0 2 p_b1.length true)] false false)), (some (.cells (F_api_Pair p_b1) false true))] ∧ (2 ≤ 2 ∧ (((o.Kind == 2) = true → (Spec C 97 [(.ptr (some (0, 0))), (.agg (e_api_Op o)), (.int .i64 x2.1), (.bool x2.2)] [(some (.cells [(.acc 1 0 2 p_b1.length true)] false false)), (some (.cells (F_api_Pair p_b1) false true))] (.agg (e_api_Answer x3.1)) [(some (.cells [(.acc 2 0 2 x3.2.length true)] false false)), none, (some (.cells (F_api_Pair x3.2) false true))] ∧ (2 ≤ 3 ∧ lff (out_table_Table_Do_2 o p_b1) (x3.1, x3.2) r))) ∧ ((o.Kind == 2) = false → (((!x2.2) = true → lff (out_table_Table_Do_2 o p_b1) ((⟨4, ([] : List UInt8)⟩ : api_Answer), p_b1) r) ∧ ((!x2.2) = false → (((o.Kind == 1) = true → (wP (.idxSlice 2 (.c (.acc 1 0 2 p_b1.length true)) (.c (.int .i64 x2.1))) = some (.ptr (some (1, 0 + x2.1.toNat * 2))) ∧ (cPart false (0 + x2.1.toNat * 2 + 1) 1 (F_api_Pair p_b1) = some (.str x4.Value) ∧ lff (out_table_Table_Do_2 o p_b1) ((⟨0, x4.Value⟩ : api_Answer), p_b1) r))) ∧ ((o.Kind == 1) = false → (((o.Kind == 4) = true → (Spec C 98 [(.ptr (some (0, 0))), (.agg (e_api_Op o)), (.int .i64 x2.1)] [(some (.cells [(.acc 1 0 2 p_b1.length true)] false false)), (some (.cells (F_api_Pair p_b1) false true))] (.agg (e_api_Answer x5.1)) [(some (.cells [(.acc 2 0 2 x5.2.length true)] false false)), none, (some (.cells (F_api_Pair x5.2) false true))] ∧ (2 ≤ 3 ∧ lff (out_table_Table_Do_2 o p_b1) (x5.1, x5.2) r))) ∧ ((o.Kind == 4) = false → (fitsB 32 p_b1.length = true ∧ ((0 ≤ x2.1 ∧ x2.1 < (IntKind.i64.wrap (x2.1 + 1)) ∧ (IntKind.i64.wrap (x2.1 + 1)) ≤ ((p_b1.length : Nat) : Int)) ∧ (p_b1.length - ((IntKind.i64.wrap (x2.1 + 1)).toNat - x2.1.toNat) = (delL p_b1 x2.1 (IntKind.i64.wrap (x2.1 + 1))).length ∧ ((F_api_Pair p_b1).take (x2.1.toNat * 2) ++ (F_api_Pair p_b1).drop ((IntKind.i64.wrap (x2.1 + 1)).toNat * 2) = F_api_Pair (delL p_b1 x2.1 (IntKind.i64.wrap (x2.1 + 1))) ∧ lff (out_table_Table_Do_2 o p_b1) ((⟨0, ([] : List UInt8)⟩ : api_Answer), (delL p_b1 x2.1 (IntKind.i64.wrap (x2.1 + 1)))) r)))))))))))))))))) := fun C => by kernel_rfl
  refine spec_of (wB_ok _) rfl atab_52 WF52_ok ((e _).mpr ⟨rfl, by decide, ?_⟩)
  unfold table_Table_Do_2 at h
  obtain ⟨q1, h⟩ := bget hx1 h
  refine ⟨s_table_Right (d + 4) q1, ?_⟩
  refine ⟨fun hb => ?_, fun hb => ?_⟩
  · have h := cond_t hb h
    exact lff_of h
  · have h := cond_f hb h
    obtain ⟨q2, h⟩ := bget hx2 h
    refine ⟨s_table_Table_find_2 (d + 0) q2, ?_⟩
    refine ⟨by decide, ?_⟩
    refine ⟨fun hb => ?_, fun hb => ?_⟩
    · have h := cond_t hb h
      obtain ⟨q3, h⟩ := bget hx3 h
      refine ⟨s_table_Table_put_2 (d + 2) q3, ?_⟩
      refine ⟨by decide, ?_⟩
      exact lff_of h
    · have h := cond_f hb h
      refine ⟨fun hb => ?_, fun hb => ?_⟩
      · have h := cond_t hb h
        exact lff_of h
      · have h := cond_f hb h
        refine ⟨fun hb => ?_, fun hb => ?_⟩
        · have h := cond_t hb h
          obtain ⟨q4, h⟩ := bget hx4 h
          refine ⟨wP_idxA R_api_Pair q4, ?_⟩
          refine ⟨cP_row (o := 1) R_api_Pair q4 rfl, ?_⟩
          exact lff_of h
        · have h := cond_f hb h
          refine ⟨fun hb => ?_, fun hb => ?_⟩
          · have h := cond_t hb h
            obtain ⟨q5, h⟩ := bget hx5 h
            refine ⟨s_table_Table_cas_2 (d + 2) q5, ?_⟩
            refine ⟨by decide, ?_⟩
            exact lff_of h
          · have h := cond_f hb h
            obtain ⟨q6, h⟩ := gd_some h
            refine ⟨q6, ?_⟩
            obtain ⟨q7, h⟩ := gd_some h
            refine ⟨delB_1 q7, ?_⟩
            refine ⟨delB_2 (l := p_b1) q7, ?_⟩
            refine ⟨del_row R_api_Pair, ?_⟩
            exact lff_of h

/- osmosis/table.Of -/
def st_table_Of_L0 (p : List api_Pair) (s5 : Int × List api_Pair) : List AV × WH := ([(.ptr (some (0, 0))), (.ptr (some (1, 0))), (l_api_Pair p), (.int .i64 (p.length : Int)), (.int .i64 s5.1)], [(some (.cells [(.acc 2 0 2 0 true)] false false)), (some (.cells [(.acc 3 0 2 s5.2.length true)] false false)), (some (.cells (F_api_Pair []) false true)), (some (.cells (F_api_Pair s5.2) false true))])
def fin_table_Of_L0 (p : List api_Pair) : (List api_Pair) → Ex × Fast × WH := fun e => ((.exit 0), [(2, (.ptr (some (0, 0)))), (3, (.ptr (some (1, 0))))], [(some (.cells [(.acc 2 0 2 0 true)] false false)), (some (.cells [(.acc 3 0 2 e.length true)] false false)), (some (.cells (F_api_Pair []) false true)), (some (.cells (F_api_Pair e) false true))])
abbrev rx_table_Of_L0 (p : List api_Pair) := roundX [2, 3, 6, 7, 8] (st_table_Of_L0 p) (fin_table_Of_L0 p)
def table_Of_L0_s (p : List api_Pair) (s5 : Int × List api_Pair) : Option ((Int × List api_Pair) ⊕ ((List api_Pair))) :=
  cond (decide (s5.1 < (p.length : Int))) ((getI p s5.1).bind fun (x6 : api_Pair) => (table_Table_Do_2 (⟨2, x6.Key, x6.Value, ([] : List UInt8)⟩ : api_Op) s5.2).bind fun (x7 : api_Answer × List api_Pair) => some (.inl ((IntKind.i64.wrap (s5.1 + 1)), x7.2))) (some (.inr s5.2))
def table_Of_L0 (p : List api_Pair) (s5 : Int × List api_Pair) : Option ((List api_Pair)) := loopX (table_Of_L0_s p) KK s5
theorem b_table_Of_L0 (d : Nat) {p : List api_Pair} {s5 : Int × List api_Pair} {r : (Int × List api_Pair) ⊕ ((List api_Pair))} (h : table_Of_L0_s p s5 = some r) : RunX (bexec (wcalls atab (d + 6)) KK 20 WB56_0) 0 (inL [2, 3, 6, 7, 8] (st_table_Of_L0 p s5)) (rx_table_Of_L0 p r) := by
  obtain ⟨x6, hx6⟩ := wx (getI p s5.1)
  obtain ⟨x7, hx7⟩ := wx (table_Table_Do_2 (⟨2, x6.Key, x6.Value, ([] : List UInt8)⟩ : api_Op) s5.2)
  have e : ∀ C : ACalls, wCode C (fun _ => none) KK 20 0 WB56_0 (inL [2, 3, 6, 7, 8] (st_table_Of_L0 p s5)).1 (inL [2, 3, 6, 7, 8] (st_table_Of_L0 p s5)).2 (.br 9 (.v 10 (.elem ((e_api_Pair x6) ++ F_api_Pair (p.drop (s5.1.toNat + 1)))) (.st none (.call [] none [] (.agg (e_api_Answer x7.1)) [(some (.cells [(.acc 2 0 2 x7.2.length true)] false false)), none, (some (.cells (F_api_Pair x7.2) false true))] (.en [2, 3, 6, 7, 8] [none, none, none, none, none] [] [.undef, .undef, .slice none 2 0 0 true, .undef, .undef])))) (.en [2, 3] [none, none] [] [])) (rx_table_Of_L0 p r) = (((decide (s5.1 < (p.length : Int))) = true → (wP (.idxSlice 2 (.c (l_api_Pair p)) (.c (.int .i64 s5.1))) = some (.elem ((e_api_Pair x6) ++ F_api_Pair (p.drop (s5.1.toNat + 1)))) ∧ (Spec C 52 [(.ptr (some (0, 0))), (.agg (e_api_Op (⟨2, x6.Key, x6.Value, ([] : List UInt8)⟩ : api_Op)))] [(some (.cells [(.acc 1 0 2 s5.2.length true)] false false)), (some (.cells (F_api_Pair s5.2) false true))] (.agg (e_api_Answer x7.1)) [(some (.cells [(.acc 2 0 2 x7.2.length true)] false false)), none, (some (.cells (F_api_Pair x7.2) false true))] ∧ (2 ≤ 3 ∧ lfe (rx_table_Of_L0 p) (.inl ((IntKind.i64.wrap (s5.1 + 1)), x7.2)) r)))) ∧ ((decide (s5.1 < (p.length : Int))) = false → lfe (rx_table_Of_L0 p) (.inr s5.2) r)) := fun C => by kernel_rfl
  refine runS_of (fun _ _ h => by cases h) WB56_0_ok (Nat.le_of_ble_eq_true rfl) ((e _).mpr ?_)
  unfold table_Of_L0_s at h
  refine ⟨fun hb => ?_, fun hb => ?_⟩
  · have h := cond_t hb h
    obtain ⟨q6, h⟩ := bget hx6 h
    refine ⟨wP_idx R_api_Pair q6, ?_⟩
    obtain ⟨q7, h⟩ := bget hx7 h
    refine ⟨s_table_Table_Do_2 (d + 0) q7, ?_⟩
    refine ⟨by decide, ?_⟩
    exact lfe_of h
  · have h := cond_f hb h
    exact lfe_of h
theorem s_table_Of_L0 (d : Nat) {p : List api_Pair} {s5 : Int × List api_Pair} {r : (List api_Pair)} (h : table_Of_L0 p s5 = some r) : RunX (bloop (bexec (wcalls atab (d + 6)) KK 20 WB56_0) [2, 3, 6, 7, 8] KK) 0 (inL [2, 3, 6, 7, 8] (st_table_Of_L0 p s5)) (fin_table_Of_L0 p r) :=
  loop_of (st := st_table_Of_L0 p) (fin := fin_table_Of_L0 p) (step := table_Of_L0_s p) (fun e => by (intro h; cases h)) (fun s x h => b_table_Of_L0 d h) KK s5 r h

def table_Of (p : List api_Pair) : Option (table_Table) :=
  (table_Of_L0 p (0, [])).bind fun (x8 : (List api_Pair)) => some (⟨x8⟩ : table_Table)
def out_table_Of (p : List api_Pair) (r : table_Table) : AV × WH := ((.agg (e_table_Table r)), [])

theorem s_table_Of (d : Nat) {p : List api_Pair} {r : table_Table} (h : table_Of p = some r) : Spec (wcalls atab (d + 7)) 56 [(l_api_Pair p)] [] (out_table_Of p r).1 (out_table_Of p r).2 := by
  obtain ⟨x8, hx8⟩ := wx (table_Of_L0 p (0, []))
  have e : ∀ C : ACalls, wBody C (fun _ => none) KK WF56 [(l_api_Pair p)] [] (.z 2 [.slice none 2 0 0 true] (.z 3 [.slice none 2 0 0 true] (.lp [none, none, none, none, none] [(some true), (some true), (some true), (some true)] [.undef, .undef, .slice none 2 0 0 true, .undef, .undef] (.exit 0) [(2, (.ptr (some (0, 0)))), (3, (.ptr (some (1, 0))))] [(some (.cells [(.acc 2 0 2 0 true)] false false)), (some (.cells [(.acc 3 0 2 x8.length true)] false false)), (some (.cells (F_api_Pair []) false true)), (some (.cells (F_api_Pair x8) false true))] (.st none (.fin (some false) [.agg [.slice none 2 0 0 true]] none))))) (out_table_Of p r).1 (out_table_Of p r).2 = (1 = 1 ∧ 1 ≤ 20 ∧ (RunS (bloop (bexec C KK 20 WB56_0) [2, 3, 6, 7, 8] KK) 0 [(2, (.ptr (some (0, 0)))), (3, (.ptr (some (1, 0)))), (6, (l_api_Pair p)), (7, (.int .i64 (p.length : Int))), (8, (.int .i64 0))] [(some (.cells [(.acc 2 0 2 0 true)] false false)), (some (.cells [(.acc 3 0 2 0 true)] false false)), (some (.cells (F_api_Pair []) false true)), (some (.cells (F_api_Pair []) false true))] (.exit 0) [(2, (.ptr (some (0, 0)))), (3, (.ptr (some (1, 0))))] [(some (.cells [(.acc 2 0 2 0 true)] false false)), (some (.cells [(.acc 3 0 2 x8.length true)] false false)), (some (.cells (F_api_Pair []) false true)), (some (.cells (F_api_Pair x8) false true))] ∧ lff (out_table_Of p) (⟨x8⟩ : table_Table) r)) := fun C => by kernel_rfl
  refine spec_of (fun _ _ h => by cases h) rfl atab_56 WF56_ok ((e _).mpr ⟨rfl, by decide, ?_⟩)
  unfold table_Of at h
  obtain ⟨q8, h⟩ := bget hx8 h
  refine ⟨s_table_Of_L0 (d + 0) q8, ?_⟩
  exact lff_of h

/- osmosis/osmosishand.Key -/
def osmosishand_Key (n : Int) : Option (List UInt8) :=
  (osmosishand_Pick n 16).bind fun (x1 : Int) => (getI ([[97], [98], [99], [100], [101], [102], [103], [104], [107, 97], [107, 98], [107, 99], [107, 100], [120], [121], [122, 122], [101, 105, 103, 104, 116, 107, 101, 121]] : List (List UInt8)) x1).bind fun (x2 : List UInt8) => some x2
def out_osmosishand_Key (n : Int) (r : List UInt8) : AV × WH := ((.str r), [])

theorem s_osmosishand_Key (d : Nat) {n : Int} {r : List UInt8} (h : osmosishand_Key n = some r) : Spec (wcalls atab (d + 2)) 58 [(.int .i64 n)] [] (out_osmosishand_Key n r).1 (out_osmosishand_Key n r).2 := by
  obtain ⟨x1, hx1⟩ := wx (osmosishand_Pick n 16)
  obtain ⟨x2, hx2⟩ := wx (getI ([[97], [98], [99], [100], [101], [102], [103], [104], [107, 97], [107, 98], [107, 99], [107, 100], [120], [121], [122, 122], [101, 105, 103, 104, 116, 107, 101, 121]] : List (List UInt8)) x1)
  have e : ∀ C : ACalls, wBody C (fun _ => none) KK WF58 [(.int .i64 n)] [] (.cb [] [] (.int .i64 x1) (.v 6 (.str x2) (.fin (some false) [] none))) (out_osmosishand_Key n r).1 (out_osmosishand_Key n r).2 = (1 = 1 ∧ 1 ≤ 7 ∧ (Spec C 28 [(.int .i64 n), (.int .i64 16)] [] (.int .i64 x1) [] ∧ (wP (.index false 16 1 (.c (.agg [(.str [97]), (.str [98]), (.str [99]), (.str [100]), (.str [101]), (.str [102]), (.str [103]), (.str [104]), (.str ([107, 97])), (.str ([107, 98])), (.str ([107, 99])), (.str ([107, 100])), (.str [120]), (.str [121]), (.str ([122, 122])), (.str ([101, 105, 103, 104, 116, 107, 101, 121]))])) (.c (.int .i64 x1))) = some (.str x2) ∧ lff (out_osmosishand_Key n) x2 r))) := fun C => by kernel_rfl
  refine spec_of (fun _ _ h => by cases h) rfl atab_58 WF58_ok ((e _).mpr ⟨rfl, by decide, ?_⟩)
  unfold osmosishand_Key at h
  obtain ⟨q1, h⟩ := bget hx1 h
  refine ⟨s_osmosishand_Pick (d + 0) q1, ?_⟩
  obtain ⟨q2, h⟩ := bget hx2 h
  refine ⟨wP_ix R_S q2, ?_⟩
  exact lff_of h

/- osmosis/osmosishand.Value -/
def osmosishand_Value (n : Int) : Option (List UInt8) :=
  (osmosishand_Pick n 6).bind fun (x1 : Int) => (getI ([([] : List UInt8), [49], [50], [116, 104, 114, 101, 101], [115, 105, 120, 116, 101, 101, 110, 32, 98, 121, 116, 101, 115, 32, 105, 116], [52]] : List (List UInt8)) x1).bind fun (x2 : List UInt8) => some x2
def out_osmosishand_Value (n : Int) (r : List UInt8) : AV × WH := ((.str r), [])

theorem s_osmosishand_Value (d : Nat) {n : Int} {r : List UInt8} (h : osmosishand_Value n = some r) : Spec (wcalls atab (d + 2)) 59 [(.int .i64 n)] [] (out_osmosishand_Value n r).1 (out_osmosishand_Value n r).2 := by
  obtain ⟨x1, hx1⟩ := wx (osmosishand_Pick n 6)
  obtain ⟨x2, hx2⟩ := wx (getI ([([] : List UInt8), [49], [50], [116, 104, 114, 101, 101], [115, 105, 120, 116, 101, 101, 110, 32, 98, 121, 116, 101, 115, 32, 105, 116], [52]] : List (List UInt8)) x1)
  have e : ∀ C : ACalls, wBody C (fun _ => none) KK WF59 [(.int .i64 n)] [] (.cb [] [] (.int .i64 x1) (.v 6 (.str x2) (.fin (some false) [] none))) (out_osmosishand_Value n r).1 (out_osmosishand_Value n r).2 = (1 = 1 ∧ 1 ≤ 7 ∧ (Spec C 28 [(.int .i64 n), (.int .i64 6)] [] (.int .i64 x1) [] ∧ (wP (.index false 6 1 (.c (.agg [(.str ([] : List UInt8)), (.str [49]), (.str [50]), (.str ([116, 104, 114, 101, 101])), (.str ([115, 105, 120, 116, 101, 101, 110, 32, 98, 121, 116, 101, 115, 32, 105, 116])), (.str [52])])) (.c (.int .i64 x1))) = some (.str x2) ∧ lff (out_osmosishand_Value n) x2 r))) := fun C => by kernel_rfl
  refine spec_of (fun _ _ h => by cases h) rfl atab_59 WF59_ok ((e _).mpr ⟨rfl, by decide, ?_⟩)
  unfold osmosishand_Value at h
  obtain ⟨q1, h⟩ := bget hx1 h
  refine ⟨s_osmosishand_Pick (d + 0) q1, ?_⟩
  obtain ⟨q2, h⟩ := bget hx2 h
  refine ⟨wP_ix R_S q2, ?_⟩
  exact lff_of h

/- osmosis/osmosishand.Op -/
abbrev in_osmosishand_Op_J0 (x1 : Int) (value : Int) (old : Int) (x2 : List UInt8) : Fast × WH := ([(2, (.int .i64 value)), (3, (.int .i64 old)), (8, (.ptr (some (0, 0)))), (9, (.ptr (some (1, 0))))], [(some (.cells (e_api_Op (⟨0, ([] : List UInt8), ([] : List UInt8), ([] : List UInt8)⟩ : api_Op)) false false)), (some (.cells (e_api_Op (⟨(IntKind.i64.wrap (1 + x1)), x2, ([] : List UInt8), ([] : List UInt8)⟩ : api_Op)) false false))])
def fin_osmosishand_Op_J0 (x1 : Int) (value : Int) (old : Int) (x2 : List UInt8) : Bool → Ex × Fast × WH := fun e => (.normal, [(2, (.int .i64 value)), (3, (.int .i64 old)), (8, (.ptr (some (0, 0)))), (9, (.ptr (some (1, 0)))), (23, (.bool e))], [(some (.cells (e_api_Op (⟨0, ([] : List UInt8), ([] : List UInt8), ([] : List UInt8)⟩ : api_Op)) false false)), (some (.cells (e_api_Op (⟨(IntKind.i64.wrap (1 + x1)), x2, ([] : List UInt8), ([] : List UInt8)⟩ : api_Op)) false false))])
def osmosishand_Op_J0 (x1 : Int) (value : Int) (old : Int) (x2 : List UInt8) : Option (Bool) :=
  cond ((IntKind.i64.wrap (1 + x1)) == 2) (some true) (some ((IntKind.i64.wrap (1 + x1)) == 4))
theorem s_osmosishand_Op_J0 (d : Nat) {x1 : Int} {value : Int} {old : Int} {x2 : List UInt8} {r : Bool} (h : osmosishand_Op_J0 x1 value old x2 = some r) : RunX (bexec (wcalls atab (d + 0)) KK 34 WJ51_bbaa) 0 (in_osmosishand_Op_J0 x1 value old x2) (fin_osmosishand_Op_J0 x1 value old x2 r) := by
  have e : ∀ C : ACalls, wCode C (fun _ => none) KK 34 0 WJ51_bbaa (in_osmosishand_Op_J0 x1 value old x2).1 (in_osmosishand_Op_J0 x1 value old x2).2 (.br 19 (.en [2, 3, 8, 9, 23] [none, none, none, none, none] [] []) (.en [2, 3, 8, 9, 23] [none, none, none, none, none] [] [])) (fin_osmosishand_Op_J0 x1 value old x2 r) = ((((IntKind.i64.wrap (1 + x1)) == 2) = true → lfe (fin_osmosishand_Op_J0 x1 value old x2) true r) ∧ (((IntKind.i64.wrap (1 + x1)) == 2) = false → lfe (fin_osmosishand_Op_J0 x1 value old x2) ((IntKind.i64.wrap (1 + x1)) == 4) r)) := fun C => by kernel_rfl
  refine runS_of (fun _ _ h => by cases h) WJ51_bbaa_ok (Nat.le_of_ble_eq_true rfl) ((e _).mpr ?_)
  unfold osmosishand_Op_J0 at h
  refine ⟨fun hb => ?_, fun hb => ?_⟩
  · have h := cond_t hb h
    exact lfe_of h
  · have h := cond_f hb h
    exact lfe_of h

abbrev in_osmosishand_Op_J1 (x1 : Int) (value : Int) (old : Int) (x2 : List UInt8) : Fast × WH := ([(2, (.int .i64 value)), (3, (.int .i64 old)), (8, (.ptr (some (0, 0)))), (9, (.ptr (some (1, 0))))], [(some (.cells (e_api_Op (⟨0, ([] : List UInt8), ([] : List UInt8), ([] : List UInt8)⟩ : api_Op)) false false)), (some (.cells (e_api_Op (⟨(IntKind.i64.wrap (1 + x1)), x2, ([] : List UInt8), ([] : List UInt8)⟩ : api_Op)) false false))])
def fin_osmosishand_Op_J1 (x1 : Int) (value : Int) (old : Int) (x2 : List UInt8) : api_Op → Ex × Fast × WH := fun e => (.normal, [(3, (.int .i64 old)), (8, (.ptr (some (0, 0)))), (9, (.ptr (some (1, 0))))], [(some (.cells (e_api_Op (⟨0, ([] : List UInt8), ([] : List UInt8), ([] : List UInt8)⟩ : api_Op)) false false)), (some (.cells (e_api_Op e) false false))])
def osmosishand_Op_J1 (x1 : Int) (value : Int) (old : Int) (x2 : List UInt8) : Option (api_Op) :=
  (osmosishand_Op_J0 x1 value old x2).bind fun (x3 : Bool) => cond x3 ((osmosishand_Value value).bind fun (x4 : List UInt8) => some (⟨(IntKind.i64.wrap (1 + x1)), x2, x4, ([] : List UInt8)⟩ : api_Op)) (some (⟨(IntKind.i64.wrap (1 + x1)), x2, ([] : List UInt8), ([] : List UInt8)⟩ : api_Op))
theorem s_osmosishand_Op_J1 (d : Nat) {x1 : Int} {value : Int} {old : Int} {x2 : List UInt8} {r : api_Op} (h : osmosishand_Op_J1 x1 value old x2 = some r) : RunX (bexec (wcalls atab (d + 2)) KK 34 WJ51_bba) 0 (in_osmosishand_Op_J1 x1 value old x2) (fin_osmosishand_Op_J1 x1 value old x2 r) := by
  obtain ⟨x3, hx3⟩ := wx (osmosishand_Op_J0 x1 value old x2)
  obtain ⟨x4, hx4⟩ := wx (osmosishand_Value value)
  have e : ∀ C : ACalls, wCode C (fun _ => none) KK 34 0 WJ51_bba (in_osmosishand_Op_J1 x1 value old x2).1 (in_osmosishand_Op_J1 x1 value old x2).2 (.jn [2, 3, 8, 9] [none, none, none, none] [] [] .normal [(2, (.int .i64 value)), (3, (.int .i64 old)), (8, (.ptr (some (0, 0)))), (9, (.ptr (some (1, 0)))), (23, (.bool x3))] [(some (.cells (e_api_Op (⟨0, ([] : List UInt8), ([] : List UInt8), ([] : List UInt8)⟩ : api_Op)) false false)), (some (.cells (e_api_Op (⟨(IntKind.i64.wrap (1 + x1)), x2, ([] : List UInt8), ([] : List UInt8)⟩ : api_Op)) false false))] (.br 23 (.cb [] [] (.str x4) (.st none (.en [3, 8, 9] [none, none, none] [] []))) (.en [3, 8, 9] [none, none, none] [] []))) (fin_osmosishand_Op_J1 x1 value old x2 r) = (RunS (bexec C KK 34 WJ51_bbaa) 0 [(2, (.int .i64 value)), (3, (.int .i64 old)), (8, (.ptr (some (0, 0)))), (9, (.ptr (some (1, 0))))] [(some (.cells (e_api_Op (⟨0, ([] : List UInt8), ([] : List UInt8), ([] : List UInt8)⟩ : api_Op)) false false)), (some (.cells (e_api_Op (⟨(IntKind.i64.wrap (1 + x1)), x2, ([] : List UInt8), ([] : List UInt8)⟩ : api_Op)) false false))] .normal [(2, (.int .i64 value)), (3, (.int .i64 old)), (8, (.ptr (some (0, 0)))), (9, (.ptr (some (1, 0)))), (23, (.bool x3))] [(some (.cells (e_api_Op (⟨0, ([] : List UInt8), ([] : List UInt8), ([] : List UInt8)⟩ : api_Op)) false false)), (some (.cells (e_api_Op (⟨(IntKind.i64.wrap (1 + x1)), x2, ([] : List UInt8), ([] : List UInt8)⟩ : api_Op)) false false))] ∧ ((x3 = true → (Spec C 59 [(.int .i64 value)] [] (.str x4) [] ∧ lfe (fin_osmosishand_Op_J1 x1 value old x2) (⟨(IntKind.i64.wrap (1 + x1)), x2, x4, ([] : List UInt8)⟩ : api_Op) r)) ∧ (x3 = false → lfe (fin_osmosishand_Op_J1 x1 value old x2) (⟨(IntKind.i64.wrap (1 + x1)), x2, ([] : List UInt8), ([] : List UInt8)⟩ : api_Op) r))) := fun C => by kernel_rfl
  refine runS_of (fun _ _ h => by cases h) WJ51_bba_ok (Nat.le_of_ble_eq_true rfl) ((e _).mpr ?_)
  unfold osmosishand_Op_J1 at h
  obtain ⟨q3, h⟩ := bget hx3 h
  refine ⟨s_osmosishand_Op_J0 (d + 2) q3, ?_⟩
  refine ⟨fun hb => ?_, fun hb => ?_⟩
  · have h := cond_t hb h
    obtain ⟨q4, h⟩ := bget hx4 h
    refine ⟨s_osmosishand_Value (d + 0) q4, ?_⟩
    exact lfe_of h
  · have h := cond_f hb h
    exact lfe_of h

def osmosishand_Op (kind : Int) (key : Int) (value : Int) (old : Int) : Option (api_Op) :=
  (osmosishand_Pick kind 4).bind fun (x1 : Int) => (osmosishand_Key key).bind fun (x2 : List UInt8) => (osmosishand_Op_J1 x1 value old x2).bind fun (x5 : api_Op) => cond (x5.Kind == 4) ((osmosishand_Value old).bind fun (x6 : List UInt8) => some (⟨x5.Kind, x5.Key, x5.Value, x6⟩ : api_Op)) (some x5)
def out_osmosishand_Op (kind : Int) (key : Int) (value : Int) (old : Int) (r : api_Op) : AV × WH := ((.agg (e_api_Op r)), [])

theorem s_osmosishand_Op (d : Nat) {kind : Int} {key : Int} {value : Int} {old : Int} {r : api_Op} (h : osmosishand_Op kind key value old = some r) : Spec (wcalls atab (d + 3)) 51 [(.int .i64 kind), (.int .i64 key), (.int .i64 value), (.int .i64 old)] [] (out_osmosishand_Op kind key value old r).1 (out_osmosishand_Op kind key value old r).2 := by
  obtain ⟨x1, hx1⟩ := wx (osmosishand_Pick kind 4)
  obtain ⟨x2, hx2⟩ := wx (osmosishand_Key key)
  obtain ⟨x5, hx5⟩ := wx (osmosishand_Op_J1 x1 value old x2)
  obtain ⟨x6, hx6⟩ := wx (osmosishand_Value old)
  have e : ∀ C : ACalls, wBody C (fun _ => none) KK WF51 [(.int .i64 kind), (.int .i64 key), (.int .i64 value), (.int .i64 old)] [] (.cb [] [] (.int .i64 x1) (.cb [] [] (.str x2) (.st none (.jn [2, 3, 8, 9] [none, none, none, none] [] [] .normal [(3, (.int .i64 old)), (8, (.ptr (some (0, 0)))), (9, (.ptr (some (1, 0))))] [(some (.cells (e_api_Op (⟨0, ([] : List UInt8), ([] : List UInt8), ([] : List UInt8)⟩ : api_Op)) false false)), (some (.cells (e_api_Op x5) false false))] (.br 29 (.cb [] [] (.str x6) (.st none (.st none (.fin (some false) [] none)))) (.st none (.fin (some false) [] none))))))) (out_osmosishand_Op kind key value old r).1 (out_osmosishand_Op kind key value old r).2 = (4 = 4 ∧ 4 ≤ 34 ∧ (Spec C 28 [(.int .i64 kind), (.int .i64 4)] [] (.int .i64 x1) [] ∧ (Spec C 58 [(.int .i64 key)] [] (.str x2) [] ∧ (RunS (bexec C KK 34 WJ51_bba) 0 [(2, (.int .i64 value)), (3, (.int .i64 old)), (8, (.ptr (some (0, 0)))), (9, (.ptr (some (1, 0))))] [(some (.cells (e_api_Op (⟨0, ([] : List UInt8), ([] : List UInt8), ([] : List UInt8)⟩ : api_Op)) false false)), (some (.cells (e_api_Op (⟨(IntKind.i64.wrap (1 + x1)), x2, ([] : List UInt8), ([] : List UInt8)⟩ : api_Op)) false false))] .normal [(3, (.int .i64 old)), (8, (.ptr (some (0, 0)))), (9, (.ptr (some (1, 0))))] [(some (.cells (e_api_Op (⟨0, ([] : List UInt8), ([] : List UInt8), ([] : List UInt8)⟩ : api_Op)) false false)), (some (.cells (e_api_Op x5) false false))] ∧ (((x5.Kind == 4) = true → (Spec C 59 [(.int .i64 old)] [] (.str x6) [] ∧ lff (out_osmosishand_Op kind key value old) (⟨x5.Kind, x5.Key, x5.Value, x6⟩ : api_Op) r)) ∧ ((x5.Kind == 4) = false → lff (out_osmosishand_Op kind key value old) x5 r)))))) := fun C => by kernel_rfl
  refine spec_of (fun _ _ h => by cases h) rfl atab_51 WF51_ok ((e _).mpr ⟨rfl, by decide, ?_⟩)
  unfold osmosishand_Op at h
  obtain ⟨q1, h⟩ := bget hx1 h
  refine ⟨s_osmosishand_Pick (d + 1) q1, ?_⟩
  obtain ⟨q2, h⟩ := bget hx2 h
  refine ⟨s_osmosishand_Key (d + 0) q2, ?_⟩
  obtain ⟨q5, h⟩ := bget hx5 h
  refine ⟨s_osmosishand_Op_J1 (d + 0) q5, ?_⟩
  refine ⟨fun hb => ?_, fun hb => ?_⟩
  · have h := cond_t hb h
    obtain ⟨q6, h⟩ := bget hx6 h
    refine ⟨s_osmosishand_Value (d + 0) q6, ?_⟩
    exact lff_of h
  · have h := cond_f hb h
    exact lff_of h

/- osmosis/osmosishand.Text -/
def osmosishand_Text (p_s : List UInt8) (n : Int) : Option (List UInt8) :=
  cond (decide ((p_s.length : Int) > n)) ((slI p_s 0 n).bind fun (x1 : List UInt8) => some x1) (some p_s)
def out_osmosishand_Text (p_s : List UInt8) (n : Int) (r : List UInt8) : AV × WH := ((.str r), [])

theorem s_osmosishand_Text (d : Nat) {p_s : List UInt8} {n : Int} {r : List UInt8} (h : osmosishand_Text p_s n = some r) : Spec (wcalls atab (d + 1)) 102 [(.str p_s), (.int .i64 n)] [] (out_osmosishand_Text p_s n r).1 (out_osmosishand_Text p_s n r).2 := by
  obtain ⟨x1, hx1⟩ := wx (slI p_s 0 n)
  have e : ∀ C : ACalls, wBody C (fun _ => none) KK WF102 [(.str p_s), (.int .i64 n)] [] (.br 8 (.v 11 (.str x1) (.fin (some false) [] none)) (.fin (some false) [] none)) (out_osmosishand_Text p_s n r).1 (out_osmosishand_Text p_s n r).2 = (2 = 2 ∧ 2 ≤ 13 ∧ (((decide ((p_s.length : Int) > n)) = true → (wP (.sliceStr (.c (.str p_s)) none (some (.c (.int .i64 n)))) = some (.str x1) ∧ lff (out_osmosishand_Text p_s n) x1 r)) ∧ ((decide ((p_s.length : Int) > n)) = false → lff (out_osmosishand_Text p_s n) p_s r))) := fun C => by kernel_rfl
  refine spec_of (fun _ _ h => by cases h) rfl atab_102 WF102_ok ((e _).mpr ⟨rfl, by decide, ?_⟩)
  unfold osmosishand_Text at h
  refine ⟨fun hb => ?_, fun hb => ?_⟩
  · have h := cond_t hb h
    obtain ⟨q1, h⟩ := bget hx1 h
    refine ⟨wP_slS_h q1, ?_⟩
    exact lff_of h
  · have h := cond_f hb h
    exact lff_of h

/- osmosis/osmosishand.Num -/
abbrev in_osmosishand_Num_J0 (x1 : Int) (n : Int) : Fast × WH := ([(0, (.int .i64 n)), (4, (.int .i64 x1))], [])
def fin_osmosishand_Num_J0 (x1 : Int) (n : Int) : Bool → Ex × Fast × WH := fun e => (.normal, [(0, (.int .i64 n)), (4, (.int .i64 x1)), (5, (.bool e))], [])
def osmosishand_Num_J0 (x1 : Int) (n : Int) : Option (Bool) :=
  cond (x1 == 0) (some true) (cond (x1 == 1) (some true) (some (x1 == 2)))
theorem s_osmosishand_Num_J0 (d : Nat) {x1 : Int} {n : Int} {r : Bool} (h : osmosishand_Num_J0 x1 n = some r) : RunX (bexec (wcalls atab (d + 0)) KK 35 WJ103_babka) 0 (in_osmosishand_Num_J0 x1 n) (fin_osmosishand_Num_J0 x1 n r) := by
  have e : ∀ C : ACalls, wCode C (fun _ => none) KK 35 0 WJ103_babka (in_osmosishand_Num_J0 x1 n).1 (in_osmosishand_Num_J0 x1 n).2 (.br 5 (.en [0, 4, 5] [none, none, none] [] []) (.br 5 (.en [0, 4, 5] [none, none, none] [] []) (.en [0, 4, 5] [none, none, none] [] []))) (fin_osmosishand_Num_J0 x1 n r) = (((x1 == 0) = true → lfe (fin_osmosishand_Num_J0 x1 n) true r) ∧ ((x1 == 0) = false → (((x1 == 1) = true → lfe (fin_osmosishand_Num_J0 x1 n) true r) ∧ ((x1 == 1) = false → lfe (fin_osmosishand_Num_J0 x1 n) (x1 == 2) r)))) := fun C => by kernel_rfl
  refine runS_of (fun _ _ h => by cases h) WJ103_babka_ok (Nat.le_of_ble_eq_true rfl) ((e _).mpr ?_)
  unfold osmosishand_Num_J0 at h
  refine ⟨fun hb => ?_, fun hb => ?_⟩
  · have h := cond_t hb h
    exact lfe_of h
  · have h := cond_f hb h
    refine ⟨fun hb => ?_, fun hb => ?_⟩
    · have h := cond_t hb h
      exact lfe_of h
    · have h := cond_f hb h
      exact lfe_of h

def osmosishand_Num (n : Int) : Option (Int) :=
  (osmosishand_Pick n 7).bind fun (x1 : Int) => (osmosishand_Num_J0 x1 n).bind fun (x2 : Bool) => cond x2 ((osmosishand_Pick (IntKind.i64.wrap (Int.tdiv n 7)) 40).bind fun (x3 : Int) => some x3) (cond (x1 == 3) ((osmosishand_Pick (IntKind.i64.wrap (Int.tdiv n 7)) 63).bind fun (x4 : Int) => (shlI .i64 1 (IntKind.u64.wrap x4)).bind fun (x5 : Int) => (osmosishand_Pick (IntKind.i64.wrap (Int.tdiv n 441)) 3).bind fun (x6 : Int) => some (IntKind.i64.wrap (x5 - x6))) (cond (x1 == 4) ((osmosishand_Pick (IntKind.i64.wrap (Int.tdiv n 7)) 3).bind fun (x7 : Int) => some (IntKind.i64.wrap (4611686018427387903 - x7))) (cond (x1 == 5) ((osmosishand_Pick (IntKind.i64.wrap (Int.tdiv n 7)) 1000).bind fun (x8 : Int) => some x8) (some n))))
def out_osmosishand_Num (n : Int) (r : Int) : AV × WH := ((.int .i64 r), [])

theorem s_osmosishand_Num (d : Nat) {n : Int} {r : Int} (h : osmosishand_Num n = some r) : Spec (wcalls atab (d + 2)) 103 [(.int .i64 n)] [] (out_osmosishand_Num n r).1 (out_osmosishand_Num n r).2 := by
  obtain ⟨x1, hx1⟩ := wx (osmosishand_Pick n 7)
  obtain ⟨x2, hx2⟩ := wx (osmosishand_Num_J0 x1 n)
  obtain ⟨x3, hx3⟩ := wx (osmosishand_Pick (IntKind.i64.wrap (Int.tdiv n 7)) 40)
  obtain ⟨x4, hx4⟩ := wx (osmosishand_Pick (IntKind.i64.wrap (Int.tdiv n 7)) 63)
  obtain ⟨x5, hx5⟩ := wx (shlI .i64 1 (IntKind.u64.wrap x4))
  obtain ⟨x6, hx6⟩ := wx (osmosishand_Pick (IntKind.i64.wrap (Int.tdiv n 441)) 3)
  obtain ⟨x7, hx7⟩ := wx (osmosishand_Pick (IntKind.i64.wrap (Int.tdiv n 7)) 3)
  obtain ⟨x8, hx8⟩ := wx (osmosishand_Pick (IntKind.i64.wrap (Int.tdiv n 7)) 1000)
  have e : ∀ C : ACalls, wBody C (fun _ => none) KK WF103 [(.int .i64 n)] [] (.cb [] [] (.int .i64 x1) (.jn [0, 4] [none, none] [] [] .normal [(0, (.int .i64 n)), (4, (.int .i64 x1)), (5, (.bool x2))] [] (.br 5 (.cb [] [] (.int .i64 x3) (.fin (some false) [] none)) (.br 12 (.cb [] [] (.int .i64 x4) (.v 18 (.int .i64 x5) (.cb [] [] (.int .i64 x6) (.fin (some false) [] none)))) (.br 23 (.cb [] [] (.int .i64 x7) (.fin (some false) [] none)) (.br 29 (.cb [] [] (.int .i64 x8) (.fin (some false) [] none)) (.fin (some false) [] none))))))) (out_osmosishand_Num n r).1 (out_osmosishand_Num n r).2 = (1 = 1 ∧ 1 ≤ 35 ∧ (Spec C 28 [(.int .i64 n), (.int .i64 7)] [] (.int .i64 x1) [] ∧ (RunS (bexec C KK 35 WJ103_babka) 0 [(0, (.int .i64 n)), (4, (.int .i64 x1))] [] .normal [(0, (.int .i64 n)), (4, (.int .i64 x1)), (5, (.bool x2))] [] ∧ ((x2 = true → (Spec C 28 [(.int .i64 (IntKind.i64.wrap (Int.tdiv n 7))), (.int .i64 40)] [] (.int .i64 x3) [] ∧ lff (out_osmosishand_Num n) x3 r)) ∧ (x2 = false → (((x1 == 3) = true → (Spec C 28 [(.int .i64 (IntKind.i64.wrap (Int.tdiv n 7))), (.int .i64 63)] [] (.int .i64 x4) [] ∧ (aBin .shl (.int .i64 1) (.int .u64 (IntKind.u64.wrap x4)) = some (.int .i64 x5) ∧ (Spec C 28 [(.int .i64 (IntKind.i64.wrap (Int.tdiv n 441))), (.int .i64 3)] [] (.int .i64 x6) [] ∧ lff (out_osmosishand_Num n) (IntKind.i64.wrap (x5 - x6)) r)))) ∧ ((x1 == 3) = false → (((x1 == 4) = true → (Spec C 28 [(.int .i64 (IntKind.i64.wrap (Int.tdiv n 7))), (.int .i64 3)] [] (.int .i64 x7) [] ∧ lff (out_osmosishand_Num n) (IntKind.i64.wrap (4611686018427387903 - x7)) r)) ∧ ((x1 == 4) = false → (((x1 == 5) = true → (Spec C 28 [(.int .i64 (IntKind.i64.wrap (Int.tdiv n 7))), (.int .i64 1000)] [] (.int .i64 x8) [] ∧ lff (out_osmosishand_Num n) x8 r)) ∧ ((x1 == 5) = false → lff (out_osmosishand_Num n) n r))))))))))) := fun C => by kernel_rfl
  refine spec_of (fun _ _ h => by cases h) rfl atab_103 WF103_ok ((e _).mpr ⟨rfl, by decide, ?_⟩)
  unfold osmosishand_Num at h
  obtain ⟨q1, h⟩ := bget hx1 h
  refine ⟨s_osmosishand_Pick (d + 0) q1, ?_⟩
  obtain ⟨q2, h⟩ := bget hx2 h
  refine ⟨s_osmosishand_Num_J0 (d + 1) q2, ?_⟩
  refine ⟨fun hb => ?_, fun hb => ?_⟩
  · have h := cond_t hb h
    obtain ⟨q3, h⟩ := bget hx3 h
    refine ⟨s_osmosishand_Pick (d + 0) q3, ?_⟩
    exact lff_of h
  · have h := cond_f hb h
    refine ⟨fun hb => ?_, fun hb => ?_⟩
    · have h := cond_t hb h
      obtain ⟨q4, h⟩ := bget hx4 h
      refine ⟨s_osmosishand_Pick (d + 0) q4, ?_⟩
      obtain ⟨q5, h⟩ := bget hx5 h
      refine ⟨wP_shl q5, ?_⟩
      obtain ⟨q6, h⟩ := bget hx6 h
      refine ⟨s_osmosishand_Pick (d + 0) q6, ?_⟩
      exact lff_of h
    · have h := cond_f hb h
      refine ⟨fun hb => ?_, fun hb => ?_⟩
      · have h := cond_t hb h
        obtain ⟨q7, h⟩ := bget hx7 h
        refine ⟨s_osmosishand_Pick (d + 0) q7, ?_⟩
        exact lff_of h
      · have h := cond_f hb h
        refine ⟨fun hb => ?_, fun hb => ?_⟩
        · have h := cond_t hb h
          obtain ⟨q8, h⟩ := bget hx8 h
          refine ⟨s_osmosishand_Pick (d + 0) q8, ?_⟩
          exact lff_of h
        · have h := cond_f hb h
          exact lff_of h

/- osmosis/osmosishand.Req -/
def osmosishand_Req (p_x : osmosishand_RawOp) : Option (api_Req) :=
  (osmosishand_Pick p_x.Client 4).bind fun (x1 : Int) => (osmosishand_Pick p_x.Seq 9).bind fun (x2 : Int) => (osmosishand_Op p_x.Kind p_x.Key p_x.Value p_x.Old).bind fun (x3 : api_Op) => (osmosishand_Pick p_x.Bend 16).bind fun (x4 : Int) => cond (x4 == 10) ((osmosishand_Text p_x.Text 12).bind fun (x5 : List UInt8) => some (⟨x1, (IntKind.i64.wrap (1 + x2)), (⟨x3.Kind, x5, x3.Value, x3.Old⟩ : api_Op)⟩ : api_Req)) (cond (x4 == 11) ((osmosishand_Text p_x.Text 20).bind fun (x6 : List UInt8) => some (⟨x1, (IntKind.i64.wrap (1 + x2)), (⟨x3.Kind, x3.Key, x6, x3.Old⟩ : api_Op)⟩ : api_Req)) (cond (x4 == 12) ((osmosishand_Pick (IntKind.i64.wrap (Int.tdiv p_x.Bend 16)) 8).bind fun (x7 : Int) => some (⟨x1, (IntKind.i64.wrap (1 + x2)), (⟨(IntKind.i64.wrap (x7 - 1)), x3.Key, x3.Value, x3.Old⟩ : api_Op)⟩ : api_Req)) (cond (x4 == 13) ((osmosishand_Pick (IntKind.i64.wrap (Int.tdiv p_x.Bend 16)) 9).bind fun (x8 : Int) => some (⟨(IntKind.i64.wrap (x8 - 2)), (IntKind.i64.wrap (1 + x2)), x3⟩ : api_Req)) (cond (x4 == 14) ((osmosishand_Num (IntKind.i64.wrap (Int.tdiv p_x.Bend 16))).bind fun (x9 : Int) => some (⟨x1, x9, x3⟩ : api_Req)) (cond (x4 == 15) (some (⟨0, 0, (⟨0, ([] : List UInt8), ([] : List UInt8), ([] : List UInt8)⟩ : api_Op)⟩ : api_Req)) (some (⟨x1, (IntKind.i64.wrap (1 + x2)), x3⟩ : api_Req)))))))
def out_osmosishand_Req (p_x : osmosishand_RawOp) (r : api_Req) : AV × WH := ((.agg (e_api_Req r)), [])

theorem s_osmosishand_Req (d : Nat) {p_x : osmosishand_RawOp} {r : api_Req} (h : osmosishand_Req p_x = some r) : Spec (wcalls atab (d + 4)) 61 [(.agg (e_osmosishand_RawOp p_x))] [] (out_osmosishand_Req p_x r).1 (out_osmosishand_Req p_x r).2 := by
  obtain ⟨x1, hx1⟩ := wx (osmosishand_Pick p_x.Client 4)
  obtain ⟨x2, hx2⟩ := wx (osmosishand_Pick p_x.Seq 9)
  obtain ⟨x3, hx3⟩ := wx (osmosishand_Op p_x.Kind p_x.Key p_x.Value p_x.Old)
  obtain ⟨x4, hx4⟩ := wx (osmosishand_Pick p_x.Bend 16)
  obtain ⟨x5, hx5⟩ := wx (osmosishand_Text p_x.Text 12)
  obtain ⟨x6, hx6⟩ := wx (osmosishand_Text p_x.Text 20)
  obtain ⟨x7, hx7⟩ := wx (osmosishand_Pick (IntKind.i64.wrap (Int.tdiv p_x.Bend 16)) 8)
  obtain ⟨x8, hx8⟩ := wx (osmosishand_Pick (IntKind.i64.wrap (Int.tdiv p_x.Bend 16)) 9)
  obtain ⟨x9, hx9⟩ := wx (osmosishand_Num (IntKind.i64.wrap (Int.tdiv p_x.Bend 16)))
  have e : ∀ C : ACalls, wBody C (fun _ => none) KK WF61 [(.agg (e_osmosishand_RawOp p_x))] [] (.cb [] [] (.int .i64 x1) (.cb [] [] (.int .i64 x2) (.cb [] [] (.agg (e_api_Op x3)) (.st none (.cb [] [] (.int .i64 x4) (.br 24 (.cb [] [] (.str x5) (.st none (.st none (.fin (some false) [] none)))) (.br 31 (.cb [] [] (.str x6) (.st none (.st none (.fin (some false) [] none)))) (.br 38 (.cb [] [] (.int .i64 x7) (.st none (.st none (.fin (some false) [] none)))) (.br 47 (.cb [] [] (.int .i64 x8) (.st none (.st none (.fin (some false) [] none)))) (.br 55 (.cb [] [] (.int .i64 x9) (.st none (.st none (.fin (some false) [] none)))) (.br 62 (.st none (.st none (.fin (some false) [] none))) (.st none (.fin (some false) [] none))))))))))))) (out_osmosishand_Req p_x r).1 (out_osmosishand_Req p_x r).2 = (1 = 1 ∧ 1 ≤ 66 ∧ (Spec C 28 [(.int .i64 p_x.Client), (.int .i64 4)] [] (.int .i64 x1) [] ∧ (Spec C 28 [(.int .i64 p_x.Seq), (.int .i64 9)] [] (.int .i64 x2) [] ∧ (Spec C 51 [(.int .i64 p_x.Kind), (.int .i64 p_x.Key), (.int .i64 p_x.Value), (.int .i64 p_x.Old)] [] (.agg (e_api_Op x3)) [] ∧ (Spec C 28 [(.int .i64 p_x.Bend), (.int .i64 16)] [] (.int .i64 x4) [] ∧ (((x4 == 10) = true → (Spec C 102 [(.str p_x.Text), (.int .i64 12)] [] (.str x5) [] ∧ lff (out_osmosishand_Req p_x) (⟨x1, (IntKind.i64.wrap (1 + x2)), (⟨x3.Kind, x5, x3.Value, x3.Old⟩ : api_Op)⟩ : api_Req) r)) ∧ ((x4 == 10) = false → (((x4 == 11) = true → (Spec C 102 [(.str p_x.Text), (.int .i64 20)] [] (.str x6) [] ∧ lff (out_osmosishand_Req p_x) (⟨x1, (IntKind.i64.wrap (1 + x2)), (⟨x3.Kind, x3.Key, x6, x3.Old⟩ : api_Op)⟩ : api_Req) r)) ∧ ((x4 == 11) = false → (((x4 == 12) = true → (Spec C 28 [(.int .i64 (IntKind.i64.wrap (Int.tdiv p_x.Bend 16))), (.int .i64 8)] [] (.int .i64 x7) [] ∧ lff (out_osmosishand_Req p_x) (⟨x1, (IntKind.i64.wrap (1 + x2)), (⟨(IntKind.i64.wrap (x7 - 1)), x3.Key, x3.Value, x3.Old⟩ : api_Op)⟩ : api_Req) r)) ∧ ((x4 == 12) = false → (((x4 == 13) = true → (Spec C 28 [(.int .i64 (IntKind.i64.wrap (Int.tdiv p_x.Bend 16))), (.int .i64 9)] [] (.int .i64 x8) [] ∧ lff (out_osmosishand_Req p_x) (⟨(IntKind.i64.wrap (x8 - 2)), (IntKind.i64.wrap (1 + x2)), x3⟩ : api_Req) r)) ∧ ((x4 == 13) = false → (((x4 == 14) = true → (Spec C 103 [(.int .i64 (IntKind.i64.wrap (Int.tdiv p_x.Bend 16)))] [] (.int .i64 x9) [] ∧ lff (out_osmosishand_Req p_x) (⟨x1, x9, x3⟩ : api_Req) r)) ∧ ((x4 == 14) = false → (((x4 == 15) = true → lff (out_osmosishand_Req p_x) (⟨0, 0, (⟨0, ([] : List UInt8), ([] : List UInt8), ([] : List UInt8)⟩ : api_Op)⟩ : api_Req) r) ∧ ((x4 == 15) = false → lff (out_osmosishand_Req p_x) (⟨x1, (IntKind.i64.wrap (1 + x2)), x3⟩ : api_Req) r))))))))))))))))) := fun C => by kernel_rfl
  refine spec_of (fun _ _ h => by cases h) rfl atab_61 WF61_ok ((e _).mpr ⟨rfl, by decide, ?_⟩)
  unfold osmosishand_Req at h
  obtain ⟨q1, h⟩ := bget hx1 h
  refine ⟨s_osmosishand_Pick (d + 2) q1, ?_⟩
  obtain ⟨q2, h⟩ := bget hx2 h
  refine ⟨s_osmosishand_Pick (d + 2) q2, ?_⟩
  obtain ⟨q3, h⟩ := bget hx3 h
  refine ⟨s_osmosishand_Op (d + 0) q3, ?_⟩
  obtain ⟨q4, h⟩ := bget hx4 h
  refine ⟨s_osmosishand_Pick (d + 2) q4, ?_⟩
  refine ⟨fun hb => ?_, fun hb => ?_⟩
  · have h := cond_t hb h
    obtain ⟨q5, h⟩ := bget hx5 h
    refine ⟨s_osmosishand_Text (d + 2) q5, ?_⟩
    exact lff_of h
  · have h := cond_f hb h
    refine ⟨fun hb => ?_, fun hb => ?_⟩
    · have h := cond_t hb h
      obtain ⟨q6, h⟩ := bget hx6 h
      refine ⟨s_osmosishand_Text (d + 2) q6, ?_⟩
      exact lff_of h
    · have h := cond_f hb h
      refine ⟨fun hb => ?_, fun hb => ?_⟩
      · have h := cond_t hb h
        obtain ⟨q7, h⟩ := bget hx7 h
        refine ⟨s_osmosishand_Pick (d + 2) q7, ?_⟩
        exact lff_of h
      · have h := cond_f hb h
        refine ⟨fun hb => ?_, fun hb => ?_⟩
        · have h := cond_t hb h
          obtain ⟨q8, h⟩ := bget hx8 h
          refine ⟨s_osmosishand_Pick (d + 2) q8, ?_⟩
          exact lff_of h
        · have h := cond_f hb h
          refine ⟨fun hb => ?_, fun hb => ?_⟩
          · have h := cond_t hb h
            obtain ⟨q9, h⟩ := bget hx9 h
            refine ⟨s_osmosishand_Num (d + 1) q9, ?_⟩
            exact lff_of h
          · have h := cond_f hb h
            refine ⟨fun hb => ?_, fun hb => ?_⟩
            · have h := cond_t hb h
              exact lff_of h
            · have h := cond_f hb h
              exact lff_of h

/- (*osmosis/session.Sessions).Note -/
abbrev in_session_Sessions_Note_J0 (p_x : api_Sess) (p_s : session_Sessions) : Fast × WH := ([(0, (.ptr (some (0, 0)))), (3, (.ptr (some (1, 0))))], [(some (.cells (e_session_Sessions p_s) false false)), (some (.cells (e_api_Sess p_x) false false))])
def fin_session_Sessions_Note_J0 (p_x : api_Sess) (p_s : session_Sessions) : Unit ⊕ Unit → Ex × Fast × WH := fun
  | .inl e => (.ret, [(4, (.bool false))], [(some (.cells (e_session_Sessions p_s) false false))])
  | .inr e => (.normal, [(0, (.ptr (some (0, 0)))), (3, (.ptr (some (1, 0))))], [(some (.cells (e_session_Sessions p_s) false false)), (some (.cells (e_api_Sess p_x) false false))])
def session_Sessions_Note_J0 (p_x : api_Sess) (p_s : session_Sessions) : Option (Unit ⊕ Unit) :=
  cond (decide (p_x.Client < 0)) (some (.inl ())) (cond (decide (p_x.Client ≥ 4)) (some (.inl ())) (cond (decide (p_x.Seq < 1)) (some (.inl ())) ((getI (p_s.l.toL) p_x.Client).bind fun (x1 : api_Sess) => cond (decide (p_x.Seq ≤ x1.Seq)) (some (.inl ())) (some (.inr ())))))
theorem s_session_Sessions_Note_J0 (d : Nat) {p_x : api_Sess} {p_s : session_Sessions} {r : Unit ⊕ Unit} (h : session_Sessions_Note_J0 p_x p_s = some r) : RunX (bexec (wcalls atab (d + 0)) KK 38 WJ106_ba) 1 (in_session_Sessions_Note_J0 p_x p_s) (fin_session_Sessions_Note_J0 p_x p_s r) := by
  obtain ⟨x1, hx1⟩ := wx (getI (p_s.l.toL) p_x.Client)
  have e : ∀ C : ACalls, wCode C (fun _ => none) KK 38 1 WJ106_ba (in_session_Sessions_Note_J0 p_x p_s).1 (in_session_Sessions_Note_J0 p_x p_s).2 (.br 8 (.en [4] [none] [] []) (.br 13 (.en [4] [none] [] []) (.br 18 (.en [4] [none] [] []) (.v 26 (.ptr (some (0, 0 + p_x.Client.toNat * 4))) (.v 28 (.int .i64 x1.Seq) (.br 30 (.en [4] [none] [] []) (.en [0, 3] [none, none] [] []))))))) (fin_session_Sessions_Note_J0 p_x p_s r) = (((decide (p_x.Client < 0)) = true → lfe (fin_session_Sessions_Note_J0 p_x p_s) (.inl ()) r) ∧ ((decide (p_x.Client < 0)) = false → (((decide (p_x.Client ≥ 4)) = true → lfe (fin_session_Sessions_Note_J0 p_x p_s) (.inl ()) r) ∧ ((decide (p_x.Client ≥ 4)) = false → (((decide (p_x.Seq < 1)) = true → lfe (fin_session_Sessions_Note_J0 p_x p_s) (.inl ()) r) ∧ ((decide (p_x.Seq < 1)) = false → (wP (.idxArr 4 4 (.c (.ptr (some (0, 0)))) (.c (.int .i64 p_x.Client))) = some (.ptr (some (0, 0 + p_x.Client.toNat * 4))) ∧ (cPart false (0 + p_x.Client.toNat * 4 + 1) 1 (e_session_Sessions p_s) = some (.int .i64 x1.Seq) ∧ (((decide (p_x.Seq ≤ x1.Seq)) = true → lfe (fin_session_Sessions_Note_J0 p_x p_s) (.inl ()) r) ∧ ((decide (p_x.Seq ≤ x1.Seq)) = false → lfe (fin_session_Sessions_Note_J0 p_x p_s) (.inr ()) r)))))))))) := fun C => by kernel_rfl
  refine runS_of (fun _ _ h => by cases h) WJ106_ba_ok (Nat.le_of_ble_eq_true rfl) ((e _).mpr ?_)
  unfold session_Sessions_Note_J0 at h
  refine ⟨fun hb => ?_, fun hb => ?_⟩
  · have h := cond_t hb h
    exact lfe_of h
  · have h := cond_f hb h
    refine ⟨fun hb => ?_, fun hb => ?_⟩
    · have h := cond_t hb h
      exact lfe_of h
    · have h := cond_f hb h
      refine ⟨fun hb => ?_, fun hb => ?_⟩
      · have h := cond_t hb h
        exact lfe_of h
      · have h := cond_f hb h
        obtain ⟨q1, h⟩ := bget hx1 h
        refine ⟨wP_arr q1 rfl, ?_⟩
        refine ⟨cP_arr (p := 0) (o := 1) R_api_Sess q1 rfl rfl, ?_⟩
        refine ⟨fun hb => ?_, fun hb => ?_⟩
        · have h := cond_t hb h
          exact lfe_of h
        · have h := cond_f hb h
          exact lfe_of h

def session_Sessions_Note (p_x : api_Sess) (p_s : session_Sessions) : Option (Bool × session_Sessions) :=
  (session_Sessions_Note_J0 p_x p_s).bind fun (x2 : Unit ⊕ Unit) => cond (isL x2) (some (false, p_s)) ((getI (p_s.l.toL) p_x.Client).bind fun (x4 : api_Sess) => some (true, (⟨(p_s.l.set p_x.Client p_x)⟩ : session_Sessions)))
def out_session_Sessions_Note (p_x : api_Sess) (p_s : session_Sessions) (r : Bool × session_Sessions) : AV × WH := ((.bool r.1), [(some (.cells (e_session_Sessions r.2) false false))])

theorem s_session_Sessions_Note (d : Nat) {p_x : api_Sess} {p_s : session_Sessions} {r : Bool × session_Sessions} (h : session_Sessions_Note p_x p_s = some r) : Spec (wcalls atab (d + 1)) 106 [(.ptr (some (0, 0))), (.agg (e_api_Sess p_x))] [(some (.cells (e_session_Sessions p_s) false false))] (out_session_Sessions_Note p_x p_s r).1 (out_session_Sessions_Note p_x p_s r).2 := by
  obtain ⟨x2, hx2⟩ := wx (session_Sessions_Note_J0 p_x p_s)
  obtain ⟨x4, hx4⟩ := wx (getI (p_s.l.toL) p_x.Client)
  have e : ∀ C : ACalls, wBody C (fun _ => none) KK WF106 [(.ptr (some (0, 0))), (.agg (e_api_Sess p_x))] [(some (.cells (e_session_Sessions p_s) false false))] (.sk (.ite (isL x2) (.jn [0, 3] [none, none] [] [] .ret [(4, (.bool false))] [(some (.cells (e_session_Sessions p_s) false false))] (.fin (some false) [] none)) (.jn [0, 3] [none, none] [] [] .normal [(0, (.ptr (some (0, 0)))), (3, (.ptr (some (1, 0))))] [(some (.cells (e_session_Sessions p_s) false false)), (some (.cells (e_api_Sess p_x) false false))] (.v 37 (.ptr (some (0, 0 + p_x.Client.toNat * 4))) (.st (some (e_session_Sessions (⟨(p_s.l.set p_x.Client p_x)⟩ : session_Sessions))) (.fin (some false) [] none)))))) (out_session_Sessions_Note p_x p_s r).1 (out_session_Sessions_Note p_x p_s r).2 = (2 = 2 ∧ 2 ≤ 38 ∧ (((isL x2) = true → (RunS (bexec C KK 38 WJ106_ba) 1 [(0, (.ptr (some (0, 0)))), (3, (.ptr (some (1, 0))))] [(some (.cells (e_session_Sessions p_s) false false)), (some (.cells (e_api_Sess p_x) false false))] .ret [(4, (.bool false))] [(some (.cells (e_session_Sessions p_s) false false))] ∧ lff (out_session_Sessions_Note p_x p_s) (false, p_s) r)) ∧ ((isL x2) = false → (RunS (bexec C KK 38 WJ106_ba) 1 [(0, (.ptr (some (0, 0)))), (3, (.ptr (some (1, 0))))] [(some (.cells (e_session_Sessions p_s) false false)), (some (.cells (e_api_Sess p_x) false false))] .normal [(0, (.ptr (some (0, 0)))), (3, (.ptr (some (1, 0))))] [(some (.cells (e_session_Sessions p_s) false false)), (some (.cells (e_api_Sess p_x) false false))] ∧ (wP (.idxArr 4 4 (.c (.ptr (some (0, 0)))) (.c (.int .i64 p_x.Client))) = some (.ptr (some (0, 0 + p_x.Client.toNat * 4))) ∧ (wrC (e_session_Sessions p_s) (0 + p_x.Client.toNat * 4) [(.int .i64 p_x.Client), (.int .i64 p_x.Seq), (.int .i64 p_x.Answer.Why), (.str p_x.Answer.Value)] = some (e_session_Sessions (⟨(p_s.l.set p_x.Client p_x)⟩ : session_Sessions)) ∧ lff (out_session_Sessions_Note p_x p_s) (true, (⟨(p_s.l.set p_x.Client p_x)⟩ : session_Sessions)) r)))))) := fun C => by kernel_rfl
  refine spec_of (fun _ _ h => by cases h) rfl atab_106 WF106_ok ((e _).mpr ⟨rfl, by decide, ?_⟩)
  unfold session_Sessions_Note at h
  obtain ⟨q2, h⟩ := bget hx2 h
  refine ⟨fun hb3 => ?_, fun hb3 => ?_⟩
  · have h := cond_t hb3 h
    refine ⟨by have h := s_session_Sessions_Note_J0 (d + 0) q2; rw [isL_t hb3] at h; exact h, ?_⟩
    exact lff_of h
  · have h := cond_f hb3 h
    refine ⟨by have h := s_session_Sessions_Note_J0 (d + 0) q2; rw [isL_f hb3] at h; exact h, ?_⟩
    obtain ⟨q4, h⟩ := bget hx4 h
    refine ⟨wP_arr q4 rfl, ?_⟩
    refine ⟨wr_arr (p := 0) (o := 0) R_api_Sess q4 (A4.toL_set _ q4) rfl (Nat.le_of_ble_eq_true rfl) rfl rfl, ?_⟩
    exact lff_of h

/- osmosis/session.OfAll -/
def st_session_OfAll_L0 (l : List api_Sess) (s3 : Int × session_Sessions) : List AV × WH := ([(.ptr (some (0, 0))), (.ptr (some (1, 0))), (l_api_Sess l), (.int .i64 (l.length : Int)), (.int .i64 s3.1)], [(some (.cells (e_session_Sessions (⟨(⟨(⟨0, 0, (⟨0, ([] : List UInt8)⟩ : api_Answer)⟩ : api_Sess), (⟨0, 0, (⟨0, ([] : List UInt8)⟩ : api_Answer)⟩ : api_Sess), (⟨0, 0, (⟨0, ([] : List UInt8)⟩ : api_Answer)⟩ : api_Sess), (⟨0, 0, (⟨0, ([] : List UInt8)⟩ : api_Answer)⟩ : api_Sess)⟩ : A4 api_Sess)⟩ : session_Sessions)) false false)), (some (.cells (e_session_Sessions s3.2) false false))])
def fin_session_OfAll_L0 (l : List api_Sess) : session_Sessions → Ex × Fast × WH := fun e => ((.exit 0), [(2, (.ptr (some (0, 0)))), (3, (.ptr (some (1, 0))))], [(some (.cells (e_session_Sessions (⟨(⟨(⟨0, 0, (⟨0, ([] : List UInt8)⟩ : api_Answer)⟩ : api_Sess), (⟨0, 0, (⟨0, ([] : List UInt8)⟩ : api_Answer)⟩ : api_Sess), (⟨0, 0, (⟨0, ([] : List UInt8)⟩ : api_Answer)⟩ : api_Sess), (⟨0, 0, (⟨0, ([] : List UInt8)⟩ : api_Answer)⟩ : api_Sess)⟩ : A4 api_Sess)⟩ : session_Sessions)) false false)), (some (.cells (e_session_Sessions e) false false))])
abbrev rx_session_OfAll_L0 (l : List api_Sess) := roundX [2, 3, 6, 7, 8] (st_session_OfAll_L0 l) (fin_session_OfAll_L0 l)
def session_OfAll_L0_s (l : List api_Sess) (s3 : Int × session_Sessions) : Option ((Int × session_Sessions) ⊕ (session_Sessions)) :=
  cond (decide (s3.1 < (l.length : Int))) ((getI l s3.1).bind fun (x4 : api_Sess) => (session_Sessions_Note x4 s3.2).bind fun (x5 : Bool × session_Sessions) => some (.inl ((IntKind.i64.wrap (s3.1 + 1)), x5.2))) (some (.inr s3.2))
def session_OfAll_L0 (l : List api_Sess) (s3 : Int × session_Sessions) : Option (session_Sessions) := loopX (session_OfAll_L0_s l) KK s3
theorem b_session_OfAll_L0 (d : Nat) {l : List api_Sess} {s3 : Int × session_Sessions} {r : (Int × session_Sessions) ⊕ (session_Sessions)} (h : session_OfAll_L0_s l s3 = some r) : RunX (bexec (wcalls atab (d + 1)) KK 16 WB105_0) 0 (inL [2, 3, 6, 7, 8] (st_session_OfAll_L0 l s3)) (rx_session_OfAll_L0 l r) := by
  obtain ⟨x4, hx4⟩ := wx (getI l s3.1)
  obtain ⟨x5, hx5⟩ := wx (session_Sessions_Note x4 s3.2)
  have e : ∀ C : ACalls, wCode C (fun _ => none) KK 16 0 WB105_0 (inL [2, 3, 6, 7, 8] (st_session_OfAll_L0 l s3)).1 (inL [2, 3, 6, 7, 8] (st_session_OfAll_L0 l s3)).2 (.br 9 (.v 10 (.elem ((e_api_Sess x4) ++ F_api_Sess (l.drop (s3.1.toNat + 1)))) (.st none (.call [] (some false) [] (.bool x5.1) [(some (.cells (e_session_Sessions x5.2) false false))] (.en [2, 3, 6, 7, 8] [none, none, none, none, none] [] [.undef, .undef, .slice none 4 0 0 true, .undef, .undef])))) (.en [2, 3] [none, none] [] [])) (rx_session_OfAll_L0 l r) = (((decide (s3.1 < (l.length : Int))) = true → (wP (.idxSlice 4 (.c (l_api_Sess l)) (.c (.int .i64 s3.1))) = some (.elem ((e_api_Sess x4) ++ F_api_Sess (l.drop (s3.1.toNat + 1)))) ∧ (Spec C 106 [(.ptr (some (0, 0))), (.agg (e_api_Sess x4))] [(some (.cells (e_session_Sessions s3.2) false false))] (.bool x5.1) [(some (.cells (e_session_Sessions x5.2) false false))] ∧ (1 ≤ 1 ∧ lfe (rx_session_OfAll_L0 l) (.inl ((IntKind.i64.wrap (s3.1 + 1)), x5.2)) r)))) ∧ ((decide (s3.1 < (l.length : Int))) = false → lfe (rx_session_OfAll_L0 l) (.inr s3.2) r)) := fun C => by kernel_rfl
  refine runS_of (fun _ _ h => by cases h) WB105_0_ok (Nat.le_of_ble_eq_true rfl) ((e _).mpr ?_)
  unfold session_OfAll_L0_s at h
  refine ⟨fun hb => ?_, fun hb => ?_⟩
  · have h := cond_t hb h
    obtain ⟨q4, h⟩ := bget hx4 h
    refine ⟨wP_idx R_api_Sess q4, ?_⟩
    obtain ⟨q5, h⟩ := bget hx5 h
    refine ⟨s_session_Sessions_Note (d + 0) q5, ?_⟩
    refine ⟨by decide, ?_⟩
    exact lfe_of h
  · have h := cond_f hb h
    exact lfe_of h
theorem s_session_OfAll_L0 (d : Nat) {l : List api_Sess} {s3 : Int × session_Sessions} {r : session_Sessions} (h : session_OfAll_L0 l s3 = some r) : RunX (bloop (bexec (wcalls atab (d + 1)) KK 16 WB105_0) [2, 3, 6, 7, 8] KK) 0 (inL [2, 3, 6, 7, 8] (st_session_OfAll_L0 l s3)) (fin_session_OfAll_L0 l r) :=
  loop_of (st := st_session_OfAll_L0 l) (fin := fin_session_OfAll_L0 l) (step := session_OfAll_L0_s l) (fun e => by (intro h; cases h)) (fun s x h => b_session_OfAll_L0 d h) KK s3 r h

def session_OfAll (l : List api_Sess) : Option (session_Sessions) :=
  (session_OfAll_L0 l (0, (⟨(⟨(⟨0, 0, (⟨0, ([] : List UInt8)⟩ : api_Answer)⟩ : api_Sess), (⟨0, 0, (⟨0, ([] : List UInt8)⟩ : api_Answer)⟩ : api_Sess), (⟨0, 0, (⟨0, ([] : List UInt8)⟩ : api_Answer)⟩ : api_Sess), (⟨0, 0, (⟨0, ([] : List UInt8)⟩ : api_Answer)⟩ : api_Sess)⟩ : A4 api_Sess)⟩ : session_Sessions))).bind fun (x6 : session_Sessions) => some x6
def out_session_OfAll (l : List api_Sess) (r : session_Sessions) : AV × WH := ((.agg (e_session_Sessions r)), [])

theorem s_session_OfAll (d : Nat) {l : List api_Sess} {r : session_Sessions} (h : session_OfAll l = some r) : Spec (wcalls atab (d + 2)) 105 [(l_api_Sess l)] [] (out_session_OfAll l r).1 (out_session_OfAll l r).2 := by
  obtain ⟨x6, hx6⟩ := wx (session_OfAll_L0 l (0, (⟨(⟨(⟨0, 0, (⟨0, ([] : List UInt8)⟩ : api_Answer)⟩ : api_Sess), (⟨0, 0, (⟨0, ([] : List UInt8)⟩ : api_Answer)⟩ : api_Sess), (⟨0, 0, (⟨0, ([] : List UInt8)⟩ : api_Answer)⟩ : api_Sess), (⟨0, 0, (⟨0, ([] : List UInt8)⟩ : api_Answer)⟩ : api_Sess)⟩ : A4 api_Sess)⟩ : session_Sessions)))
  have e : ∀ C : ACalls, wBody C (fun _ => none) KK WF105 [(l_api_Sess l)] [] (.lp [none, none, none, none, none] [] [.undef, .undef, .slice none 4 0 0 true, .undef, .undef] (.exit 0) [(2, (.ptr (some (0, 0)))), (3, (.ptr (some (1, 0))))] [(some (.cells (e_session_Sessions (⟨(⟨(⟨0, 0, (⟨0, ([] : List UInt8)⟩ : api_Answer)⟩ : api_Sess), (⟨0, 0, (⟨0, ([] : List UInt8)⟩ : api_Answer)⟩ : api_Sess), (⟨0, 0, (⟨0, ([] : List UInt8)⟩ : api_Answer)⟩ : api_Sess), (⟨0, 0, (⟨0, ([] : List UInt8)⟩ : api_Answer)⟩ : api_Sess)⟩ : A4 api_Sess)⟩ : session_Sessions)) false false)), (some (.cells (e_session_Sessions x6) false false))] (.st none (.fin (some false) [] none))) (out_session_OfAll l r).1 (out_session_OfAll l r).2 = (1 = 1 ∧ 1 ≤ 16 ∧ (RunS (bloop (bexec C KK 16 WB105_0) [2, 3, 6, 7, 8] KK) 0 [(2, (.ptr (some (0, 0)))), (3, (.ptr (some (1, 0)))), (6, (l_api_Sess l)), (7, (.int .i64 (l.length : Int))), (8, (.int .i64 0))] [(some (.cells (e_session_Sessions (⟨(⟨(⟨0, 0, (⟨0, ([] : List UInt8)⟩ : api_Answer)⟩ : api_Sess), (⟨0, 0, (⟨0, ([] : List UInt8)⟩ : api_Answer)⟩ : api_Sess), (⟨0, 0, (⟨0, ([] : List UInt8)⟩ : api_Answer)⟩ : api_Sess), (⟨0, 0, (⟨0, ([] : List UInt8)⟩ : api_Answer)⟩ : api_Sess)⟩ : A4 api_Sess)⟩ : session_Sessions)) false false)), (some (.cells (e_session_Sessions (⟨(⟨(⟨0, 0, (⟨0, ([] : List UInt8)⟩ : api_Answer)⟩ : api_Sess), (⟨0, 0, (⟨0, ([] : List UInt8)⟩ : api_Answer)⟩ : api_Sess), (⟨0, 0, (⟨0, ([] : List UInt8)⟩ : api_Answer)⟩ : api_Sess), (⟨0, 0, (⟨0, ([] : List UInt8)⟩ : api_Answer)⟩ : api_Sess)⟩ : A4 api_Sess)⟩ : session_Sessions)) false false))] (.exit 0) [(2, (.ptr (some (0, 0)))), (3, (.ptr (some (1, 0))))] [(some (.cells (e_session_Sessions (⟨(⟨(⟨0, 0, (⟨0, ([] : List UInt8)⟩ : api_Answer)⟩ : api_Sess), (⟨0, 0, (⟨0, ([] : List UInt8)⟩ : api_Answer)⟩ : api_Sess), (⟨0, 0, (⟨0, ([] : List UInt8)⟩ : api_Answer)⟩ : api_Sess), (⟨0, 0, (⟨0, ([] : List UInt8)⟩ : api_Answer)⟩ : api_Sess)⟩ : A4 api_Sess)⟩ : session_Sessions)) false false)), (some (.cells (e_session_Sessions x6) false false))] ∧ lff (out_session_OfAll l) x6 r)) := fun C => by kernel_rfl
  refine spec_of (fun _ _ h => by cases h) rfl atab_105 WF105_ok ((e _).mpr ⟨rfl, by decide, ?_⟩)
  unfold session_OfAll at h
  obtain ⟨q6, h⟩ := bget hx6 h
  refine ⟨s_session_OfAll_L0 (d + 0) q6, ?_⟩
  exact lff_of h

/- osmosis/shard.Of -/
def shard_Of (p_x : api_Image) : Option (shard_Shard) :=
  (table_Of p_x.Pairs).bind fun (x1 : table_Table) => (session_OfAll p_x.Sess).bind fun (x2 : session_Sessions) => some (⟨x1, x2, p_x.Shard, p_x.Epoch⟩ : shard_Shard)
def out_shard_Of (p_x : api_Image) (r : shard_Shard) : AV × WH := ((.agg (e_shard_Shard r)), [])

theorem s_shard_Of (d : Nat) {p_x : api_Image} {r : shard_Shard} (h : shard_Of p_x = some r) : Spec (wcalls atab (d + 8)) 65 [(.agg (e_api_Image p_x))] [] (out_shard_Of p_x r).1 (out_shard_Of p_x r).2 := by
  obtain ⟨x1, hx1⟩ := wx (table_Of p_x.Pairs)
  obtain ⟨x2, hx2⟩ := wx (session_OfAll p_x.Sess)
  have e : ∀ C : ACalls, wBody C (fun _ => none) KK WF65 [(.agg (e_api_Image p_x))] [] (.z 2 [.slice none 2 0 0 true, .undef, .undef, .undef, .undef, .undef, .undef, .undef, .undef, .undef, .undef, .undef, .undef, .undef, .undef, .undef, .undef, .undef, .undef] (.call [] (some false) [.slice none 2 0 0 true] (.agg (e_table_Table x1)) [] (.cb [] [.slice none 4 0 0 true] (.agg (e_session_Sessions x2)) (.st none (.fin (some false) [.agg [.slice none 2 0 0 true, .undef, .undef, .undef, .undef, .undef, .undef, .undef, .undef, .undef, .undef, .undef, .undef, .undef, .undef, .undef, .undef, .undef, .undef]] none))))) (out_shard_Of p_x r).1 (out_shard_Of p_x r).2 = (1 = 1 ∧ 1 ≤ 14 ∧ (Spec C 56 [(l_api_Pair p_x.Pairs)] [] (.agg (e_table_Table x1)) [] ∧ (0 ≤ 0 ∧ (Spec C 105 [(l_api_Sess p_x.Sess)] [] (.agg (e_session_Sessions x2)) [] ∧ lff (out_shard_Of p_x) (⟨x1, x2, p_x.Shard, p_x.Epoch⟩ : shard_Shard) r)))) := fun C => by kernel_rfl
  refine spec_of (fun _ _ h => by cases h) rfl atab_65 WF65_ok ((e _).mpr ⟨rfl, by decide, ?_⟩)
  unfold shard_Of at h
  obtain ⟨q1, h⟩ := bget hx1 h
  refine ⟨s_table_Of (d + 0) q1, ?_⟩
  refine ⟨by decide, ?_⟩
  obtain ⟨q2, h⟩ := bget hx2 h
  refine ⟨s_session_OfAll (d + 5) q2, ?_⟩
  exact lff_of h

end Go.Proofs.Ytachollgbplikaa
