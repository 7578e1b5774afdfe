/- Functions as Lean functions, part 2. -/
import Derived.Test.YtachollgbplikaaXt
import Derived.Test.YtachollgbplikaaXs
import Derived.Test.YtachollgbplikaaY1
set_option linter.all false
set_option maxRecDepth 100000
namespace Go.Proofs.Ytachollgbplikaa
/- osmosis/osmosislaw6.TableKnown -/
abbrev in_osmosislaw6_TableKnown_J0 (x8 : List api_Pair) (x7 : api_Answer × table_Table) (x2 : api_Answer × table_Table) (x3 : api_Answer × table_Table) (x4 : api_Answer × table_Table) (x5 : api_Answer × table_Table) (x6 : api_Answer × table_Table) : Fast × WH := ([(1, (.ptr (some (0, 0)))), (3, (.ptr (some (1, 0)))), (4, (.ptr (some (2, 0)))), (5, (.ptr (some (3, 0)))), (6, (.ptr (some (4, 0)))), (7, (.ptr (some (5, 0)))), (8, (.ptr (some (6, 0)))), (9, (l_api_Pair x8))], [(some (.cells (e_table_Table x7.2) false false)), (some (.cells (e_api_Answer x2.1) false false)), (some (.cells (e_api_Answer x3.1) false false)), (some (.cells (e_api_Answer x4.1) false false)), (some (.cells (e_api_Answer x5.1) false false)), (some (.cells (e_api_Answer x6.1) false false)), (some (.cells (e_api_Answer x7.1) false false))])
def fin_osmosislaw6_TableKnown_J0 (x8 : List api_Pair) (x7 : api_Answer × table_Table) (x2 : api_Answer × table_Table) (x3 : api_Answer × table_Table) (x4 : api_Answer × table_Table) (x5 : api_Answer × table_Table) (x6 : api_Answer × table_Table) : Unit ⊕ Unit → Ex × Fast × WH := fun
  | .inl e => (.ret, [(0, (.bool false))], [])
  | .inr e => (.normal, [(1, (.ptr (some (0, 0)))), (3, (.ptr (some (1, 0)))), (4, (.ptr (some (2, 0)))), (5, (.ptr (some (3, 0)))), (6, (.ptr (some (4, 0)))), (7, (.ptr (some (5, 0)))), (8, (.ptr (some (6, 0)))), (9, (l_api_Pair x8))], [(some (.cells (e_table_Table x7.2) false false)), (some (.cells (e_api_Answer x2.1) false false)), (some (.cells (e_api_Answer x3.1) false false)), (some (.cells (e_api_Answer x4.1) false false)), (some (.cells (e_api_Answer x5.1) false false)), (some (.cells (e_api_Answer x6.1) false false)), (some (.cells (e_api_Answer x7.1) false false))])
def osmosislaw6_TableKnown_J0 (x8 : List api_Pair) (x7 : api_Answer × table_Table) (x2 : api_Answer × table_Table) (x3 : api_Answer × table_Table) (x4 : api_Answer × table_Table) (x5 : api_Answer × table_Table) (x6 : api_Answer × table_Table) : Option (Unit ⊕ Unit) :=
  (osmosislaw6_known).bind fun (x9 : Bool) => cond (!x9) (some (.inl ())) (cond ((x8.length : Int) != 2) (some (.inl ())) (some (.inr ())))
theorem s_osmosislaw6_TableKnown_J0 (d : Nat) {x8 : List api_Pair} {x7 : api_Answer × table_Table} {x2 : api_Answer × table_Table} {x3 : api_Answer × table_Table} {x4 : api_Answer × table_Table} {x5 : api_Answer × table_Table} {x6 : api_Answer × table_Table} {r : Unit ⊕ Unit} (h : osmosislaw6_TableKnown_J0 x8 x7 x2 x3 x4 x5 x6 = some r) : RunX (bexec (wcalls atab (d + 7)) KK 151 WJ14_bbbbbbbbbba) 0 (in_osmosislaw6_TableKnown_J0 x8 x7 x2 x3 x4 x5 x6) (fin_osmosislaw6_TableKnown_J0 x8 x7 x2 x3 x4 x5 x6 r) := by
  obtain ⟨x9, hx9⟩ := wx (osmosislaw6_known)
  have e : ∀ C : ACalls, wCode C (fun _ => none) KK 151 0 WJ14_bbbbbbbbbba (in_osmosislaw6_TableKnown_J0 x8 x7 x2 x3 x4 x5 x6).1 (in_osmosislaw6_TableKnown_J0 x8 x7 x2 x3 x4 x5 x6).2 (.cb [] [] (.bool x9) (.br 37 (.en [0] [none] [] []) (.br 41 (.en [0] [none] [] []) (.en [1, 3, 4, 5, 6, 7, 8, 9] [none, none, none, none, none, none, none, none] [] [.undef, .undef, .undef, .undef, .undef, .undef, .undef, .slice none 2 0 0 true])))) (fin_osmosislaw6_TableKnown_J0 x8 x7 x2 x3 x4 x5 x6 r) = (Spec C 55 [] [] (.bool x9) [] ∧ (((!x9) = true → lfe (fin_osmosislaw6_TableKnown_J0 x8 x7 x2 x3 x4 x5 x6) (.inl ()) r) ∧ ((!x9) = false → ((((x8.length : Int) != 2) = true → lfe (fin_osmosislaw6_TableKnown_J0 x8 x7 x2 x3 x4 x5 x6) (.inl ()) r) ∧ (((x8.length : Int) != 2) = false → lfe (fin_osmosislaw6_TableKnown_J0 x8 x7 x2 x3 x4 x5 x6) (.inr ()) r))))) := fun C => by kernel_rfl
  refine runS_of (fun _ _ h => by cases h) WJ14_bbbbbbbbbba_ok (Nat.le_of_ble_eq_true rfl) ((e _).mpr ?_)
  unfold osmosislaw6_TableKnown_J0 at h
  obtain ⟨q9, h⟩ := bget hx9 h
  refine ⟨s_osmosislaw6_known (d + 0) q9, ?_⟩
  refine ⟨fun hb => ?_, fun hb => ?_⟩
  · have h := cond_t hb h
    exact lfe_of h
  · have h := cond_f hb h
    refine ⟨fun hb => ?_, fun hb => ?_⟩
    · have h := cond_t hb h
      exact lfe_of h
    · have h := cond_f hb h
      exact lfe_of h

def st_osmosislaw6_TableKnown_L1 (x8 : List api_Pair) (x2 : api_Answer × table_Table) (x3 : api_Answer × table_Table) (x4 : api_Answer × table_Table) (x5 : api_Answer × table_Table) (x6 : api_Answer × table_Table) (x7 : api_Answer × table_Table) (s14 : Int × table_Table) : List AV × WH := ([(.ptr (some (0, 0))), (.ptr (some (1, 0))), (.ptr (some (2, 0))), (.ptr (some (3, 0))), (.ptr (some (4, 0))), (.ptr (some (5, 0))), (.ptr (some (6, 0))), (l_api_Pair x8), (.int .i64 s14.1)], [(some (.cells (e_table_Table s14.2) false false)), (some (.cells (e_api_Answer x2.1) false false)), (some (.cells (e_api_Answer x3.1) false false)), (some (.cells (e_api_Answer x4.1) false false)), (some (.cells (e_api_Answer x5.1) false false)), (some (.cells (e_api_Answer x6.1) false false)), (some (.cells (e_api_Answer x7.1) false false))])
def fin_osmosislaw6_TableKnown_L1 (x8 : List api_Pair) (x2 : api_Answer × table_Table) (x3 : api_Answer × table_Table) (x4 : api_Answer × table_Table) (x5 : api_Answer × table_Table) (x6 : api_Answer × table_Table) (x7 : api_Answer × table_Table) : table_Table → Ex × Fast × WH := fun e => ((.exit 0), [(1, (.ptr (some (0, 0)))), (3, (.ptr (some (1, 0)))), (4, (.ptr (some (2, 0)))), (5, (.ptr (some (3, 0)))), (6, (.ptr (some (4, 0)))), (7, (.ptr (some (5, 0)))), (8, (.ptr (some (6, 0)))), (9, (l_api_Pair x8))], [(some (.cells (e_table_Table e) false false)), (some (.cells (e_api_Answer x2.1) false false)), (some (.cells (e_api_Answer x3.1) false false)), (some (.cells (e_api_Answer x4.1) false false)), (some (.cells (e_api_Answer x5.1) false false)), (some (.cells (e_api_Answer x6.1) false false)), (some (.cells (e_api_Answer x7.1) false false))])
abbrev rx_osmosislaw6_TableKnown_L1 (x8 : List api_Pair) (x2 : api_Answer × table_Table) (x3 : api_Answer × table_Table) (x4 : api_Answer × table_Table) (x5 : api_Answer × table_Table) (x6 : api_Answer × table_Table) (x7 : api_Answer × table_Table) := roundX [1, 3, 4, 5, 6, 7, 8, 9, 10] (st_osmosislaw6_TableKnown_L1 x8 x2 x3 x4 x5 x6 x7) (fin_osmosislaw6_TableKnown_L1 x8 x2 x3 x4 x5 x6 x7)
def osmosislaw6_TableKnown_L1_s (x8 : List api_Pair) (x2 : api_Answer × table_Table) (x3 : api_Answer × table_Table) (x4 : api_Answer × table_Table) (x5 : api_Answer × table_Table) (x6 : api_Answer × table_Table) (x7 : api_Answer × table_Table) (s14 : Int × table_Table) : Option ((Int × table_Table) ⊕ (table_Table)) :=
  cond (decide (s14.1 < 8)) ((catS [107] ([(u8w (IntKind.i64.wrap (48 + s14.1)))])).bind fun (x15 : List UInt8) => (table_Table_Do_3 (⟨2, x15, ([] : List UInt8), ([] : List UInt8)⟩ : api_Op) s14.2).bind fun (x16 : api_Answer × table_Table) => some (.inl ((IntKind.i64.wrap (s14.1 + 1)), x16.2))) (some (.inr s14.2))
def osmosislaw6_TableKnown_L1 (x8 : List api_Pair) (x2 : api_Answer × table_Table) (x3 : api_Answer × table_Table) (x4 : api_Answer × table_Table) (x5 : api_Answer × table_Table) (x6 : api_Answer × table_Table) (x7 : api_Answer × table_Table) (s14 : Int × table_Table) : Option (table_Table) := loopX (osmosislaw6_TableKnown_L1_s x8 x2 x3 x4 x5 x6 x7) KK s14
theorem b_osmosislaw6_TableKnown_L1 (d : Nat) {x8 : List api_Pair} {x2 : api_Answer × table_Table} {x3 : api_Answer × table_Table} {x4 : api_Answer × table_Table} {x5 : api_Answer × table_Table} {x6 : api_Answer × table_Table} {x7 : api_Answer × table_Table} {s14 : Int × table_Table} {r : (Int × table_Table) ⊕ (table_Table)} (h : osmosislaw6_TableKnown_L1_s x8 x2 x3 x4 x5 x6 x7 s14 = some r) : RunX (bexec (wcalls atab (d + 6)) KK 151 WB14_0) 0 (inL [1, 3, 4, 5, 6, 7, 8, 9, 10] (st_osmosislaw6_TableKnown_L1 x8 x2 x3 x4 x5 x6 x7 s14)) (rx_osmosislaw6_TableKnown_L1 x8 x2 x3 x4 x5 x6 x7 r) := by
  obtain ⟨x15, hx15⟩ := wx (catS [107] ([(u8w (IntKind.i64.wrap (48 + s14.1)))]))
  obtain ⟨x16, hx16⟩ := wx (table_Table_Do_3 (⟨2, x15, ([] : List UInt8), ([] : List UInt8)⟩ : api_Op) s14.2)
  have e : ∀ C : ACalls, wCode C (fun _ => none) KK 151 0 WB14_0 (inL [1, 3, 4, 5, 6, 7, 8, 9, 10] (st_osmosislaw6_TableKnown_L1 x8 x2 x3 x4 x5 x6 x7 s14)).1 (inL [1, 3, 4, 5, 6, 7, 8, 9, 10] (st_osmosislaw6_TableKnown_L1 x8 x2 x3 x4 x5 x6 x7 s14)).2 (.br 43 (.v 48 (.int .u8 ((u8w (IntKind.i64.wrap (48 + s14.1))).toNat : Int)) (.v 50 (.str [(u8w (IntKind.i64.wrap (48 + s14.1)))]) (.v 51 (.str x15) (.call [] (some false) [] (.agg (e_api_Answer x16.1)) [(some (.cells (e_table_Table x16.2) false false))] (.en [1, 3, 4, 5, 6, 7, 8, 9, 10] [none, none, none, none, none, none, none, none, none] [] [.undef, .undef, .undef, .undef, .undef, .undef, .undef, .slice none 2 0 0 true, .undef]))))) (.en [1, 3, 4, 5, 6, 7, 8, 9] [none, none, none, none, none, none, none, none] [] [.undef, .undef, .undef, .undef, .undef, .undef, .undef, .slice none 2 0 0 true])) (rx_osmosislaw6_TableKnown_L1 x8 x2 x3 x4 x5 x6 x7 r) = (((decide (s14.1 < 8)) = true → (@Eq (Option AV) (some (.int .u8 (IntKind.u8.wrap (IntKind.i64.wrap (48 + s14.1))))) (some (.int .u8 ((u8w (IntKind.i64.wrap (48 + s14.1))).toNat : Int))) ∧ ((toBytes [(.int .u8 ((u8w (IntKind.i64.wrap (48 + s14.1))).toNat : Int))]).map AV.str = some (.str [(u8w (IntKind.i64.wrap (48 + s14.1)))]) ∧ (aStrs .add [107] ([(u8w (IntKind.i64.wrap (48 + s14.1)))]) = some (.str x15) ∧ (Spec C 52 [(.ptr (some (0, 0))), (.agg (e_api_Op (⟨2, x15, ([] : List UInt8), ([] : List UInt8)⟩ : api_Op)))] [(some (.cells (e_table_Table s14.2) false false))] (.agg (e_api_Answer x16.1)) [(some (.cells (e_table_Table x16.2) false false))] ∧ (1 ≤ 1 ∧ lfe (rx_osmosislaw6_TableKnown_L1 x8 x2 x3 x4 x5 x6 x7) (.inl ((IntKind.i64.wrap (s14.1 + 1)), x16.2)) r)))))) ∧ ((decide (s14.1 < 8)) = false → lfe (rx_osmosislaw6_TableKnown_L1 x8 x2 x3 x4 x5 x6 x7) (.inr s14.2) r)) := fun C => by kernel_rfl
  refine runS_of (fun _ _ h => by cases h) WB14_0_ok (Nat.le_of_ble_eq_true rfl) ((e _).mpr ?_)
  unfold osmosislaw6_TableKnown_L1_s at h
  refine ⟨fun hb => ?_, fun hb => ?_⟩
  · have h := cond_t hb h
    refine ⟨u8_w _, ?_⟩
    refine ⟨by rw [show [(.int .u8 ((u8w (IntKind.i64.wrap (48 + s14.1))).toNat : Int))] = ([(u8w (IntKind.i64.wrap (48 + s14.1)))] : List UInt8).map byteC from rfl, toBytes_map]; rfl, ?_⟩
    obtain ⟨q15, h⟩ := bget hx15 h
    refine ⟨wP_cat q15, ?_⟩
    obtain ⟨q16, h⟩ := bget hx16 h
    refine ⟨s_table_Table_Do_3 (d + 0) q16, ?_⟩
    refine ⟨by decide, ?_⟩
    exact lfe_of h
  · have h := cond_f hb h
    exact lfe_of h
theorem s_osmosislaw6_TableKnown_L1 (d : Nat) {x8 : List api_Pair} {x2 : api_Answer × table_Table} {x3 : api_Answer × table_Table} {x4 : api_Answer × table_Table} {x5 : api_Answer × table_Table} {x6 : api_Answer × table_Table} {x7 : api_Answer × table_Table} {s14 : Int × table_Table} {r : table_Table} (h : osmosislaw6_TableKnown_L1 x8 x2 x3 x4 x5 x6 x7 s14 = some r) : RunX (bloop (bexec (wcalls atab (d + 6)) KK 151 WB14_0) [1, 3, 4, 5, 6, 7, 8, 9, 10] KK) 0 (inL [1, 3, 4, 5, 6, 7, 8, 9, 10] (st_osmosislaw6_TableKnown_L1 x8 x2 x3 x4 x5 x6 x7 s14)) (fin_osmosislaw6_TableKnown_L1 x8 x2 x3 x4 x5 x6 x7 r) :=
  loop_of (st := st_osmosislaw6_TableKnown_L1 x8 x2 x3 x4 x5 x6 x7) (fin := fin_osmosislaw6_TableKnown_L1 x8 x2 x3 x4 x5 x6 x7) (step := osmosislaw6_TableKnown_L1_s x8 x2 x3 x4 x5 x6 x7) (fun e => by (intro h; cases h)) (fun s x h => b_osmosislaw6_TableKnown_L1 d h) KK s14 r h

abbrev in_osmosislaw6_TableKnown_J2 (x8 : List api_Pair) (x20 : api_Answer × table_Table) (x2 : api_Answer × table_Table) (x3 : api_Answer × table_Table) (x4 : api_Answer × table_Table) (x5 : api_Answer × table_Table) (x6 : api_Answer × table_Table) (x7 : api_Answer × table_Table) (x18 : api_Answer × table_Table) (x19 : api_Answer × table_Table) : Fast × WH := ([(1, (.ptr (some (0, 0)))), (3, (.ptr (some (1, 0)))), (4, (.ptr (some (2, 0)))), (5, (.ptr (some (3, 0)))), (6, (.ptr (some (4, 0)))), (7, (.ptr (some (5, 0)))), (8, (.ptr (some (6, 0)))), (9, (l_api_Pair x8)), (11, (.ptr (some (7, 0)))), (12, (.ptr (some (8, 0)))), (13, (.ptr (some (9, 0))))], [(some (.cells (e_table_Table x20.2) false false)), (some (.cells (e_api_Answer x2.1) false false)), (some (.cells (e_api_Answer x3.1) false false)), (some (.cells (e_api_Answer x4.1) false false)), (some (.cells (e_api_Answer x5.1) false false)), (some (.cells (e_api_Answer x6.1) false false)), (some (.cells (e_api_Answer x7.1) false false)), (some (.cells (e_api_Answer x18.1) false false)), (some (.cells (e_api_Answer x19.1) false false)), (some (.cells (e_api_Answer x20.1) false false))])
def fin_osmosislaw6_TableKnown_J2 (x8 : List api_Pair) (x20 : api_Answer × table_Table) (x2 : api_Answer × table_Table) (x3 : api_Answer × table_Table) (x4 : api_Answer × table_Table) (x5 : api_Answer × table_Table) (x6 : api_Answer × table_Table) (x7 : api_Answer × table_Table) (x18 : api_Answer × table_Table) (x19 : api_Answer × table_Table) : Bool → Ex × Fast × WH := fun e => (.normal, [(1, (.ptr (some (0, 0)))), (3, (.ptr (some (1, 0)))), (4, (.ptr (some (2, 0)))), (5, (.ptr (some (3, 0)))), (6, (.ptr (some (4, 0)))), (7, (.ptr (some (5, 0)))), (8, (.ptr (some (6, 0)))), (9, (l_api_Pair x8)), (11, (.ptr (some (7, 0)))), (12, (.ptr (some (8, 0)))), (13, (.ptr (some (9, 0)))), (14, (.bool e))], [(some (.cells (e_table_Table x20.2) false false)), (some (.cells (e_api_Answer x2.1) false false)), (some (.cells (e_api_Answer x3.1) false false)), (some (.cells (e_api_Answer x4.1) false false)), (some (.cells (e_api_Answer x5.1) false false)), (some (.cells (e_api_Answer x6.1) false false)), (some (.cells (e_api_Answer x7.1) false false)), (some (.cells (e_api_Answer x18.1) false false)), (some (.cells (e_api_Answer x19.1) false false)), (some (.cells (e_api_Answer x20.1) false false))])
def osmosislaw6_TableKnown_J2 (x8 : List api_Pair) (x20 : api_Answer × table_Table) (x2 : api_Answer × table_Table) (x3 : api_Answer × table_Table) (x4 : api_Answer × table_Table) (x5 : api_Answer × table_Table) (x6 : api_Answer × table_Table) (x7 : api_Answer × table_Table) (x18 : api_Answer × table_Table) (x19 : api_Answer × table_Table) : Option (Bool) :=
  (table_Right (⟨2, [97], ([] : List UInt8), [120]⟩ : api_Op)).bind fun (x21 : Bool) => cond x21 (some true) ((table_Right (⟨5, [97], ([] : List UInt8), ([] : List UInt8)⟩ : api_Op)).bind fun (x22 : Bool) => cond x22 (some true) ((table_Right (⟨1, [110, 105, 110, 101, 98, 121, 116, 101, 115], ([] : List UInt8), ([] : List UInt8)⟩ : api_Op)).bind fun (x23 : Bool) => cond x23 (some true) ((table_Right (⟨2, [97], [115, 101, 118, 101, 110, 116, 101, 101, 110, 32, 98, 121, 116, 101, 115, 32, 105], ([] : List UInt8)⟩ : api_Op)).bind fun (x24 : Bool) => cond x24 (some true) ((table_Right (⟨1, ([] : List UInt8), ([] : List UInt8), ([] : List UInt8)⟩ : api_Op)).bind fun (x25 : Bool) => cond x25 (some true) ((table_Right (⟨0, [97], ([] : List UInt8), ([] : List UInt8)⟩ : api_Op)).bind fun (x26 : Bool) => some x26)))))
theorem s_osmosislaw6_TableKnown_J2 (d : Nat) {x8 : List api_Pair} {x20 : api_Answer × table_Table} {x2 : api_Answer × table_Table} {x3 : api_Answer × table_Table} {x4 : api_Answer × table_Table} {x5 : api_Answer × table_Table} {x6 : api_Answer × table_Table} {x7 : api_Answer × table_Table} {x18 : api_Answer × table_Table} {x19 : api_Answer × table_Table} {r : Bool} (h : osmosislaw6_TableKnown_J2 x8 x20 x2 x3 x4 x5 x6 x7 x18 x19 = some r) : RunX (bexec (wcalls atab (d + 1)) KK 151 WJ14_bbbbbbbbbbbbbbba) 0 (in_osmosislaw6_TableKnown_J2 x8 x20 x2 x3 x4 x5 x6 x7 x18 x19) (fin_osmosislaw6_TableKnown_J2 x8 x20 x2 x3 x4 x5 x6 x7 x18 x19 r) := by
  obtain ⟨x21, hx21⟩ := wx (table_Right (⟨2, [97], ([] : List UInt8), [120]⟩ : api_Op))
  obtain ⟨x22, hx22⟩ := wx (table_Right (⟨5, [97], ([] : List UInt8), ([] : List UInt8)⟩ : api_Op))
  obtain ⟨x23, hx23⟩ := wx (table_Right (⟨1, [110, 105, 110, 101, 98, 121, 116, 101, 115], ([] : List UInt8), ([] : List UInt8)⟩ : api_Op))
  obtain ⟨x24, hx24⟩ := wx (table_Right (⟨2, [97], [115, 101, 118, 101, 110, 116, 101, 101, 110, 32, 98, 121, 116, 101, 115, 32, 105], ([] : List UInt8)⟩ : api_Op))
  obtain ⟨x25, hx25⟩ := wx (table_Right (⟨1, ([] : List UInt8), ([] : List UInt8), ([] : List UInt8)⟩ : api_Op))
  obtain ⟨x26, hx26⟩ := wx (table_Right (⟨0, [97], ([] : List UInt8), ([] : List UInt8)⟩ : api_Op))
  have e : ∀ C : ACalls, wCode C (fun _ => none) KK 151 0 WJ14_bbbbbbbbbbbbbbba (in_osmosislaw6_TableKnown_J2 x8 x20 x2 x3 x4 x5 x6 x7 x18 x19).1 (in_osmosislaw6_TableKnown_J2 x8 x20 x2 x3 x4 x5 x6 x7 x18 x19).2 (.cb [] [] (.bool x21) (.br 62 (.en [1, 3, 4, 5, 6, 7, 8, 9, 11, 12, 13, 14] [none, none, none, none, none, none, none, none, none, none, none, none] [] [.undef, .undef, .undef, .undef, .undef, .undef, .undef, .slice none 2 0 0 true, .undef, .undef, .undef, .undef]) (.cb [] [] (.bool x22) (.br 66 (.en [1, 3, 4, 5, 6, 7, 8, 9, 11, 12, 13, 14] [none, none, none, none, none, none, none, none, none, none, none, none] [] [.undef, .undef, .undef, .undef, .undef, .undef, .undef, .slice none 2 0 0 true, .undef, .undef, .undef, .undef]) (.cb [] [] (.bool x23) (.br 70 (.en [1, 3, 4, 5, 6, 7, 8, 9, 11, 12, 13, 14] [none, none, none, none, none, none, none, none, none, none, none, none] [] [.undef, .undef, .undef, .undef, .undef, .undef, .undef, .slice none 2 0 0 true, .undef, .undef, .undef, .undef]) (.cb [] [] (.bool x24) (.br 74 (.en [1, 3, 4, 5, 6, 7, 8, 9, 11, 12, 13, 14] [none, none, none, none, none, none, none, none, none, none, none, none] [] [.undef, .undef, .undef, .undef, .undef, .undef, .undef, .slice none 2 0 0 true, .undef, .undef, .undef, .undef]) (.cb [] [] (.bool x25) (.br 78 (.en [1, 3, 4, 5, 6, 7, 8, 9, 11, 12, 13, 14] [none, none, none, none, none, none, none, none, none, none, none, none] [] [.undef, .undef, .undef, .undef, .undef, .undef, .undef, .slice none 2 0 0 true, .undef, .undef, .undef, .undef]) (.cb [] [] (.bool x26) (.en [1, 3, 4, 5, 6, 7, 8, 9, 11, 12, 13, 14] [none, none, none, none, none, none, none, none, none, none, none, none] [] [.undef, .undef, .undef, .undef, .undef, .undef, .undef, .slice none 2 0 0 true, .undef, .undef, .undef, .undef])))))))))))) (fin_osmosislaw6_TableKnown_J2 x8 x20 x2 x3 x4 x5 x6 x7 x18 x19 r) = (Spec C 57 [(.agg (e_api_Op (⟨2, [97], ([] : List UInt8), [120]⟩ : api_Op)))] [] (.bool x21) [] ∧ ((x21 = true → lfe (fin_osmosislaw6_TableKnown_J2 x8 x20 x2 x3 x4 x5 x6 x7 x18 x19) true r) ∧ (x21 = false → (Spec C 57 [(.agg (e_api_Op (⟨5, [97], ([] : List UInt8), ([] : List UInt8)⟩ : api_Op)))] [] (.bool x22) [] ∧ ((x22 = true → lfe (fin_osmosislaw6_TableKnown_J2 x8 x20 x2 x3 x4 x5 x6 x7 x18 x19) true r) ∧ (x22 = false → (Spec C 57 [(.agg (e_api_Op (⟨1, [110, 105, 110, 101, 98, 121, 116, 101, 115], ([] : List UInt8), ([] : List UInt8)⟩ : api_Op)))] [] (.bool x23) [] ∧ ((x23 = true → lfe (fin_osmosislaw6_TableKnown_J2 x8 x20 x2 x3 x4 x5 x6 x7 x18 x19) true r) ∧ (x23 = false → (Spec C 57 [(.agg (e_api_Op (⟨2, [97], [115, 101, 118, 101, 110, 116, 101, 101, 110, 32, 98, 121, 116, 101, 115, 32, 105], ([] : List UInt8)⟩ : api_Op)))] [] (.bool x24) [] ∧ ((x24 = true → lfe (fin_osmosislaw6_TableKnown_J2 x8 x20 x2 x3 x4 x5 x6 x7 x18 x19) true r) ∧ (x24 = false → (Spec C 57 [(.agg (e_api_Op (⟨1, ([] : List UInt8), ([] : List UInt8), ([] : List UInt8)⟩ : api_Op)))] [] (.bool x25) [] ∧ ((x25 = true → lfe (fin_osmosislaw6_TableKnown_J2 x8 x20 x2 x3 x4 x5 x6 x7 x18 x19) true r) ∧ (x25 = false → (Spec C 57 [(.agg (e_api_Op (⟨0, [97], ([] : List UInt8), ([] : List UInt8)⟩ : api_Op)))] [] (.bool x26) [] ∧ lfe (fin_osmosislaw6_TableKnown_J2 x8 x20 x2 x3 x4 x5 x6 x7 x18 x19) x26 r)))))))))))))))) := fun C => by kernel_rfl
  refine runS_of (fun _ _ h => by cases h) WJ14_bbbbbbbbbbbbbbba_ok (Nat.le_of_ble_eq_true rfl) ((e _).mpr ?_)
  unfold osmosislaw6_TableKnown_J2 at h
  obtain ⟨q21, h⟩ := bget hx21 h
  refine ⟨s_table_Right (d + 0) q21, ?_⟩
  refine ⟨fun hb => ?_, fun hb => ?_⟩
  · have h := cond_t hb h
    exact lfe_of h
  · have h := cond_f hb h
    obtain ⟨q22, h⟩ := bget hx22 h
    refine ⟨s_table_Right (d + 0) q22, ?_⟩
    refine ⟨fun hb => ?_, fun hb => ?_⟩
    · have h := cond_t hb h
      exact lfe_of h
    · have h := cond_f hb h
      obtain ⟨q23, h⟩ := bget hx23 h
      refine ⟨s_table_Right (d + 0) q23, ?_⟩
      refine ⟨fun hb => ?_, fun hb => ?_⟩
      · have h := cond_t hb h
        exact lfe_of h
      · have h := cond_f hb h
        obtain ⟨q24, h⟩ := bget hx24 h
        refine ⟨s_table_Right (d + 0) q24, ?_⟩
        refine ⟨fun hb => ?_, fun hb => ?_⟩
        · have h := cond_t hb h
          exact lfe_of h
        · have h := cond_f hb h
          obtain ⟨q25, h⟩ := bget hx25 h
          refine ⟨s_table_Right (d + 0) q25, ?_⟩
          refine ⟨fun hb => ?_, fun hb => ?_⟩
          · have h := cond_t hb h
            exact lfe_of h
          · have h := cond_f hb h
            obtain ⟨q26, h⟩ := bget hx26 h
            refine ⟨s_table_Right (d + 0) q26, ?_⟩
            exact lfe_of h

def osmosislaw6_TableKnown  : Option (Bool) :=
  (table_Of ([(⟨[98], [49]⟩ : api_Pair), (⟨([] : List UInt8), [50]⟩ : api_Pair), (⟨[97], ([] : List UInt8)⟩ : api_Pair), (⟨[98], [51]⟩ : api_Pair)])).bind fun (x1 : table_Table) => (table_Table_Do_3 (⟨3, [98], ([] : List UInt8), ([] : List UInt8)⟩ : api_Op) x1).bind fun (x2 : api_Answer × table_Table) => (table_Table_Do_3 (⟨1, [98], ([] : List UInt8), ([] : List UInt8)⟩ : api_Op) x1).bind fun (x3 : api_Answer × table_Table) => (table_Table_Do_3 (⟨1, [98], ([] : List UInt8), ([] : List UInt8)⟩ : api_Op) x2.2).bind fun (x4 : api_Answer × table_Table) => (table_Table_Do_3 (⟨3, [113], ([] : List UInt8), ([] : List UInt8)⟩ : api_Op) x3.2).bind fun (x5 : api_Answer × table_Table) => (table_Table_Do_3 (⟨4, [113], ([] : List UInt8), ([] : List UInt8)⟩ : api_Op) x5.2).bind fun (x6 : api_Answer × table_Table) => (table_Table_Do_3 (⟨4, [97], [120], ([] : List UInt8)⟩ : api_Op) x6.2).bind fun (x7 : api_Answer × table_Table) => (table_Table_Pairs x7.2).bind fun (x8 : List api_Pair) => (osmosislaw6_TableKnown_J0 x8 x7 x2 x3 x4 x5 x6).bind fun (x10 : Unit ⊕ Unit) => cond (isL x10) (some false) ((osmosislaw6_TableKnown_L1 x8 x2 x3 x4 x5 x6 x7 (0, x7.2)).bind fun (x17 : table_Table) => (table_Table_Do_3 (⟨2, [110, 101, 119], ([] : List UInt8), ([] : List UInt8)⟩ : api_Op) x17).bind fun (x18 : api_Answer × table_Table) => (table_Table_Do_3 (⟨2, [97], [121], ([] : List UInt8)⟩ : api_Op) x18.2).bind fun (x19 : api_Answer × table_Table) => (table_Table_Do_3 (⟨1, [97], [121], ([] : List UInt8)⟩ : api_Op) x19.2).bind fun (x20 : api_Answer × table_Table) => (osmosislaw6_TableKnown_J2 x8 x20 x2 x3 x4 x5 x6 x7 x18 x19).bind fun (x27 : Bool) => cond (x2.1.Why == 0 && (x2.1.Value == ([] : List UInt8) && true)) (cond (x3.1.Why == 0 && (x3.1.Value == [51] && true)) (cond (x4.1.Why == 4) (cond (x5.1.Why == 4) (cond (x6.1.Why == 4) (cond (x7.1.Why == 0 && (x7.1.Value == ([] : List UInt8) && true)) ((getI x8 0).bind fun (x28 : api_Pair) => cond (x28.Key == [97] && (x28.Value == [120] && true)) ((getI x8 1).bind fun (x29 : api_Pair) => cond (x29.Key == [98]) ((table_Table_Len_2 x20.2).bind fun (x30 : Int) => cond (x30 == 8) (cond (x18.1.Why == 5) (cond (x19.1.Why == 0) (cond (x20.1.Why == 1) (cond (!x27) ((table_Right (⟨4, [101, 105, 103, 104, 116, 107, 101, 121], [115, 105, 120, 116, 101, 101, 110, 32, 98, 121, 116, 101, 115, 32, 105, 116], [115, 105, 120, 116, 101, 101, 110, 32, 98, 121, 116, 101, 115, 32, 105, 116]⟩ : api_Op)).bind fun (x31 : Bool) => some x31) (some false)) (some false)) (some false)) (some false)) (some false)) (some false)) (some false)) (some false)) (some false)) (some false)) (some false)) (some false)) (some false))
def out_osmosislaw6_TableKnown (r : Bool) : AV × WH := ((.bool r), [])

theorem s_osmosislaw6_TableKnown (d : Nat)  {r : Bool} (h : osmosislaw6_TableKnown = some r) : Spec (wcalls atab (d + 8)) 14 [] [] (out_osmosislaw6_TableKnown r).1 (out_osmosislaw6_TableKnown r).2 := by
  obtain ⟨x1, hx1⟩ := wx (table_Of ([(⟨[98], [49]⟩ : api_Pair), (⟨([] : List UInt8), [50]⟩ : api_Pair), (⟨[97], ([] : List UInt8)⟩ : api_Pair), (⟨[98], [51]⟩ : api_Pair)]))
  obtain ⟨x2, hx2⟩ := wx (table_Table_Do_3 (⟨3, [98], ([] : List UInt8), ([] : List UInt8)⟩ : api_Op) x1)
  obtain ⟨x3, hx3⟩ := wx (table_Table_Do_3 (⟨1, [98], ([] : List UInt8), ([] : List UInt8)⟩ : api_Op) x1)
  obtain ⟨x4, hx4⟩ := wx (table_Table_Do_3 (⟨1, [98], ([] : List UInt8), ([] : List UInt8)⟩ : api_Op) x2.2)
  obtain ⟨x5, hx5⟩ := wx (table_Table_Do_3 (⟨3, [113], ([] : List UInt8), ([] : List UInt8)⟩ : api_Op) x3.2)
  obtain ⟨x6, hx6⟩ := wx (table_Table_Do_3 (⟨4, [113], ([] : List UInt8), ([] : List UInt8)⟩ : api_Op) x5.2)
  obtain ⟨x7, hx7⟩ := wx (table_Table_Do_3 (⟨4, [97], [120], ([] : List UInt8)⟩ : api_Op) x6.2)
  obtain ⟨x8, hx8⟩ := wx (table_Table_Pairs x7.2)
  obtain ⟨x10, hx10⟩ := wx (osmosislaw6_TableKnown_J0 x8 x7 x2 x3 x4 x5 x6)
  obtain ⟨x17, hx17⟩ := wx (osmosislaw6_TableKnown_L1 x8 x2 x3 x4 x5 x6 x7 (0, x7.2))
  obtain ⟨x18, hx18⟩ := wx (table_Table_Do_3 (⟨2, [110, 101, 119], ([] : List UInt8), ([] : List UInt8)⟩ : api_Op) x17)
  obtain ⟨x19, hx19⟩ := wx (table_Table_Do_3 (⟨2, [97], [121], ([] : List UInt8)⟩ : api_Op) x18.2)
  obtain ⟨x20, hx20⟩ := wx (table_Table_Do_3 (⟨1, [97], [121], ([] : List UInt8)⟩ : api_Op) x19.2)
  obtain ⟨x27, hx27⟩ := wx (osmosislaw6_TableKnown_J2 x8 x20 x2 x3 x4 x5 x6 x7 x18 x19)
  obtain ⟨x28, hx28⟩ := wx (getI x8 0)
  obtain ⟨x29, hx29⟩ := wx (getI x8 1)
  obtain ⟨x30, hx30⟩ := wx (table_Table_Len_2 x20.2)
  obtain ⟨x31, hx31⟩ := wx (table_Right (⟨4, [101, 105, 103, 104, 116, 107, 101, 121], [115, 105, 120, 116, 101, 101, 110, 32, 98, 121, 116, 101, 115, 32, 105, 116], [115, 105, 120, 116, 101, 101, 110, 32, 98, 121, 116, 101, 115, 32, 105, 116]⟩ : api_Op))
  have e : ∀ C : ACalls, wBody C (fun _ => none) KK WF14 [] [] (.call [] (some false) [.slice none 2 0 0 true] (.agg (e_table_Table x1)) [] (.z 1 [.slice none 2 0 0 true] (.st none (.z 2 [.slice none 2 0 0 true] (.st none (.call [] (some false) [] (.agg (e_api_Answer x2.1)) [(some (.cells (e_table_Table x2.2) false false))] (.st none (.call [] (some false) [] (.agg (e_api_Answer x3.1)) [(some (.cells (e_table_Table x3.2) false false))] (.st none (.call [] (some false) [] (.agg (e_api_Answer x4.1)) [(some (.cells (e_table_Table x4.2) false false))] (.st none (.call [] (some false) [] (.agg (e_api_Answer x5.1)) [(some (.cells (e_table_Table x5.2) false false))] (.st none (.call [] (some false) [] (.agg (e_api_Answer x6.1)) [(some (.cells (e_table_Table x6.2) false false))] (.st none (.call [] (some false) [] (.agg (e_api_Answer x7.1)) [(some (.cells (e_table_Table x7.2) false false))] (.st none (.call [] (some false) [] (l_api_Pair x8) [(some (.cells (e_table_Table x7.2) false false))] (.ite (isL x10) (.jn [1, 3, 4, 5, 6, 7, 8, 9] [none, none, none, none, none, none, none, none] [] [.undef, .undef, .undef, .undef, .undef, .undef, .undef, .slice none 2 0 0 true] .ret [(0, (.bool false))] [] (.fin (some false) [] none)) (.jn [1, 3, 4, 5, 6, 7, 8, 9] [none, none, none, none, none, none, none, none] [] [.undef, .undef, .undef, .undef, .undef, .undef, .undef, .slice none 2 0 0 true] .normal [(1, (.ptr (some (0, 0)))), (3, (.ptr (some (1, 0)))), (4, (.ptr (some (2, 0)))), (5, (.ptr (some (3, 0)))), (6, (.ptr (some (4, 0)))), (7, (.ptr (some (5, 0)))), (8, (.ptr (some (6, 0)))), (9, (l_api_Pair x8))] [(some (.cells (e_table_Table x7.2) false false)), (some (.cells (e_api_Answer x2.1) false false)), (some (.cells (e_api_Answer x3.1) false false)), (some (.cells (e_api_Answer x4.1) false false)), (some (.cells (e_api_Answer x5.1) false false)), (some (.cells (e_api_Answer x6.1) false false)), (some (.cells (e_api_Answer x7.1) false false))] (.lp [none, none, none, none, none, none, none, none, none] [] [.undef, .undef, .undef, .undef, .undef, .undef, .undef, .slice none 2 0 0 true, .undef] (.exit 0) [(1, (.ptr (some (0, 0)))), (3, (.ptr (some (1, 0)))), (4, (.ptr (some (2, 0)))), (5, (.ptr (some (3, 0)))), (6, (.ptr (some (4, 0)))), (7, (.ptr (some (5, 0)))), (8, (.ptr (some (6, 0)))), (9, (l_api_Pair x8))] [(some (.cells (e_table_Table x17) false false)), (some (.cells (e_api_Answer x2.1) false false)), (some (.cells (e_api_Answer x3.1) false false)), (some (.cells (e_api_Answer x4.1) false false)), (some (.cells (e_api_Answer x5.1) false false)), (some (.cells (e_api_Answer x6.1) false false)), (some (.cells (e_api_Answer x7.1) false false))] (.call [] (some false) [] (.agg (e_api_Answer x18.1)) [(some (.cells (e_table_Table x18.2) false false))] (.st none (.call [] (some false) [] (.agg (e_api_Answer x19.1)) [(some (.cells (e_table_Table x19.2) false false))] (.st none (.call [] (some false) [] (.agg (e_api_Answer x20.1)) [(some (.cells (e_table_Table x20.2) false false))] (.st none (.jn [1, 3, 4, 5, 6, 7, 8, 9, 11, 12, 13] [none, none, none, none, none, none, none, none, none, none, none] [] [.undef, .undef, .undef, .undef, .undef, .undef, .undef, .slice none 2 0 0 true, .undef, .undef, .undef] .normal [(1, (.ptr (some (0, 0)))), (3, (.ptr (some (1, 0)))), (4, (.ptr (some (2, 0)))), (5, (.ptr (some (3, 0)))), (6, (.ptr (some (4, 0)))), (7, (.ptr (some (5, 0)))), (8, (.ptr (some (6, 0)))), (9, (l_api_Pair x8)), (11, (.ptr (some (7, 0)))), (12, (.ptr (some (8, 0)))), (13, (.ptr (some (9, 0)))), (14, (.bool x27))] [(some (.cells (e_table_Table x20.2) false false)), (some (.cells (e_api_Answer x2.1) false false)), (some (.cells (e_api_Answer x3.1) false false)), (some (.cells (e_api_Answer x4.1) false false)), (some (.cells (e_api_Answer x5.1) false false)), (some (.cells (e_api_Answer x6.1) false false)), (some (.cells (e_api_Answer x7.1) false false)), (some (.cells (e_api_Answer x18.1) false false)), (some (.cells (e_api_Answer x19.1) false false)), (some (.cells (e_api_Answer x20.1) false false))] (.br 85 (.br 90 (.br 95 (.br 100 (.br 105 (.br 110 (.v 112 (.elem ((e_api_Pair x28) ++ F_api_Pair (x8.drop ((0 : Int).toNat + 1)))) (.br 117 (.v 119 (.elem ((e_api_Pair x29) ++ F_api_Pair (x8.drop ((1 : Int).toNat + 1)))) (.br 124 (.call [] (some false) [] (.int .i64 x30) [(some (.cells (e_table_Table x20.2) false false))] (.br 128 (.br 133 (.br 138 (.br 143 (.br 147 (.cb [] [] (.bool x31) (.fin (some false) [] none)) (.fin (some false) [] none)) (.fin (some false) [] none)) (.fin (some false) [] none)) (.fin (some false) [] none)) (.fin (some false) [] none))) (.fin (some false) [] none))) (.fin (some false) [] none))) (.fin (some false) [] none)) (.fin (some false) [] none)) (.fin (some false) [] none)) (.fin (some false) [] none)) (.fin (some false) [] none)) (.fin (some false) [] none)))))))))))))))))))))))))))))) (out_osmosislaw6_TableKnown r).1 (out_osmosislaw6_TableKnown r).2 = (0 = 0 ∧ 0 ≤ 151 ∧ (Spec C 56 [(l_api_Pair ([(⟨[98], [49]⟩ : api_Pair), (⟨([] : List UInt8), [50]⟩ : api_Pair), (⟨[97], ([] : List UInt8)⟩ : api_Pair), (⟨[98], [51]⟩ : api_Pair)]))] [] (.agg (e_table_Table x1)) [] ∧ (0 ≤ 0 ∧ (Spec C 52 [(.ptr (some (0, 0))), (.agg (e_api_Op (⟨3, [98], ([] : List UInt8), ([] : List UInt8)⟩ : api_Op)))] [(some (.cells (e_table_Table x1) false false))] (.agg (e_api_Answer x2.1)) [(some (.cells (e_table_Table x2.2) false false))] ∧ (1 ≤ 1 ∧ (Spec C 52 [(.ptr (some (0, 0))), (.agg (e_api_Op (⟨1, [98], ([] : List UInt8), ([] : List UInt8)⟩ : api_Op)))] [(some (.cells (e_table_Table x1) false false))] (.agg (e_api_Answer x3.1)) [(some (.cells (e_table_Table x3.2) false false))] ∧ (1 ≤ 1 ∧ (Spec C 52 [(.ptr (some (0, 0))), (.agg (e_api_Op (⟨1, [98], ([] : List UInt8), ([] : List UInt8)⟩ : api_Op)))] [(some (.cells (e_table_Table x2.2) false false))] (.agg (e_api_Answer x4.1)) [(some (.cells (e_table_Table x4.2) false false))] ∧ (1 ≤ 1 ∧ (Spec C 52 [(.ptr (some (0, 0))), (.agg (e_api_Op (⟨3, [113], ([] : List UInt8), ([] : List UInt8)⟩ : api_Op)))] [(some (.cells (e_table_Table x3.2) false false))] (.agg (e_api_Answer x5.1)) [(some (.cells (e_table_Table x5.2) false false))] ∧ (1 ≤ 1 ∧ (Spec C 52 [(.ptr (some (0, 0))), (.agg (e_api_Op (⟨4, [113], ([] : List UInt8), ([] : List UInt8)⟩ : api_Op)))] [(some (.cells (e_table_Table x5.2) false false))] (.agg (e_api_Answer x6.1)) [(some (.cells (e_table_Table x6.2) false false))] ∧ (1 ≤ 1 ∧ (Spec C 52 [(.ptr (some (0, 0))), (.agg (e_api_Op (⟨4, [97], [120], ([] : List UInt8)⟩ : api_Op)))] [(some (.cells (e_table_Table x6.2) false false))] (.agg (e_api_Answer x7.1)) [(some (.cells (e_table_Table x7.2) false false))] ∧ (1 ≤ 1 ∧ (Spec C 54 [(.ptr (some (0, 0)))] [(some (.cells (e_table_Table x7.2) false false))] (l_api_Pair x8) [(some (.cells (e_table_Table x7.2) false false))] ∧ (1 ≤ 1 ∧ (((isL x10) = true → (RunS (bexec C KK 151 WJ14_bbbbbbbbbba) 0 [(1, (.ptr (some (0, 0)))), (3, (.ptr (some (1, 0)))), (4, (.ptr (some (2, 0)))), (5, (.ptr (some (3, 0)))), (6, (.ptr (some (4, 0)))), (7, (.ptr (some (5, 0)))), (8, (.ptr (some (6, 0)))), (9, (l_api_Pair x8))] [(some (.cells (e_table_Table x7.2) false false)), (some (.cells (e_api_Answer x2.1) false false)), (some (.cells (e_api_Answer x3.1) false false)), (some (.cells (e_api_Answer x4.1) false false)), (some (.cells (e_api_Answer x5.1) false false)), (some (.cells (e_api_Answer x6.1) false false)), (some (.cells (e_api_Answer x7.1) false false))] .ret [(0, (.bool false))] [] ∧ lff out_osmosislaw6_TableKnown false r)) ∧ ((isL x10) = false → (RunS (bexec C KK 151 WJ14_bbbbbbbbbba) 0 [(1, (.ptr (some (0, 0)))), (3, (.ptr (some (1, 0)))), (4, (.ptr (some (2, 0)))), (5, (.ptr (some (3, 0)))), (6, (.ptr (some (4, 0)))), (7, (.ptr (some (5, 0)))), (8, (.ptr (some (6, 0)))), (9, (l_api_Pair x8))] [(some (.cells (e_table_Table x7.2) false false)), (some (.cells (e_api_Answer x2.1) false false)), (some (.cells (e_api_Answer x3.1) false false)), (some (.cells (e_api_Answer x4.1) false false)), (some (.cells (e_api_Answer x5.1) false false)), (some (.cells (e_api_Answer x6.1) false false)), (some (.cells (e_api_Answer x7.1) false false))] .normal [(1, (.ptr (some (0, 0)))), (3, (.ptr (some (1, 0)))), (4, (.ptr (some (2, 0)))), (5, (.ptr (some (3, 0)))), (6, (.ptr (some (4, 0)))), (7, (.ptr (some (5, 0)))), (8, (.ptr (some (6, 0)))), (9, (l_api_Pair x8))] [(some (.cells (e_table_Table x7.2) false false)), (some (.cells (e_api_Answer x2.1) false false)), (some (.cells (e_api_Answer x3.1) false false)), (some (.cells (e_api_Answer x4.1) false false)), (some (.cells (e_api_Answer x5.1) false false)), (some (.cells (e_api_Answer x6.1) false false)), (some (.cells (e_api_Answer x7.1) false false))] ∧ (RunS (bloop (bexec C KK 151 WB14_0) [1, 3, 4, 5, 6, 7, 8, 9, 10] KK) 0 [(1, (.ptr (some (0, 0)))), (3, (.ptr (some (1, 0)))), (4, (.ptr (some (2, 0)))), (5, (.ptr (some (3, 0)))), (6, (.ptr (some (4, 0)))), (7, (.ptr (some (5, 0)))), (8, (.ptr (some (6, 0)))), (9, (l_api_Pair x8)), (10, (.int .i64 0))] [(some (.cells (e_table_Table x7.2) false false)), (some (.cells (e_api_Answer x2.1) false false)), (some (.cells (e_api_Answer x3.1) false false)), (some (.cells (e_api_Answer x4.1) false false)), (some (.cells (e_api_Answer x5.1) false false)), (some (.cells (e_api_Answer x6.1) false false)), (some (.cells (e_api_Answer x7.1) false false))] (.exit 0) [(1, (.ptr (some (0, 0)))), (3, (.ptr (some (1, 0)))), (4, (.ptr (some (2, 0)))), (5, (.ptr (some (3, 0)))), (6, (.ptr (some (4, 0)))), (7, (.ptr (some (5, 0)))), (8, (.ptr (some (6, 0)))), (9, (l_api_Pair x8))] [(some (.cells (e_table_Table x17) false false)), (some (.cells (e_api_Answer x2.1) false false)), (some (.cells (e_api_Answer x3.1) false false)), (some (.cells (e_api_Answer x4.1) false false)), (some (.cells (e_api_Answer x5.1) false false)), (some (.cells (e_api_Answer x6.1) false false)), (some (.cells (e_api_Answer x7.1) false false))] ∧ (Spec C 52 [(.ptr (some (0, 0))), (.agg (e_api_Op (⟨2, [110, 101, 119], ([] : List UInt8), ([] : List UInt8)⟩ : api_Op)))] [(some (.cells (e_table_Table x17) false false))] (.agg (e_api_Answer x18.1)) [(some (.cells (e_table_Table x18.2) false false))] ∧ (1 ≤ 1 ∧ (Spec C 52 [(.ptr (some (0, 0))), (.agg (e_api_Op (⟨2, [97], [121], ([] : List UInt8)⟩ : api_Op)))] [(some (.cells (e_table_Table x18.2) false false))] (.agg (e_api_Answer x19.1)) [(some (.cells (e_table_Table x19.2) false false))] ∧ (1 ≤ 1 ∧ (Spec C 52 [(.ptr (some (0, 0))), (.agg (e_api_Op (⟨1, [97], [121], ([] : List UInt8)⟩ : api_Op)))] [(some (.cells (e_table_Table x19.2) false false))] (.agg (e_api_Answer x20.1)) [(some (.cells (e_table_Table x20.2) false false))] ∧ (1 ≤ 1 ∧ (RunS (bexec C KK 151 WJ14_bbbbbbbbbbbbbbba) 0 [(1, (.ptr (some (0, 0)))), (3, (.ptr (some (1, 0)))), (4, (.ptr (some (2, 0)))), (5, (.ptr (some (3, 0)))), (6, (.ptr (some (4, 0)))), (7, (.ptr (some (5, 0)))), (8, (.ptr (some (6, 0)))), (9, (l_api_Pair x8)), (11, (.ptr (some (7, 0)))), (12, (.ptr (some (8, 0)))), (13, (.ptr (some (9, 0))))] [(some (.cells (e_table_Table x20.2) false false)), (some (.cells (e_api_Answer x2.1) false false)), (some (.cells (e_api_Answer x3.1) false false)), (some (.cells (e_api_Answer x4.1) false false)), (some (.cells (e_api_Answer x5.1) false false)), (some (.cells (e_api_Answer x6.1) false false)), (some (.cells (e_api_Answer x7.1) false false)), (some (.cells (e_api_Answer x18.1) false false)), (some (.cells (e_api_Answer x19.1) false false)), (some (.cells (e_api_Answer x20.1) false false))] .normal [(1, (.ptr (some (0, 0)))), (3, (.ptr (some (1, 0)))), (4, (.ptr (some (2, 0)))), (5, (.ptr (some (3, 0)))), (6, (.ptr (some (4, 0)))), (7, (.ptr (some (5, 0)))), (8, (.ptr (some (6, 0)))), (9, (l_api_Pair x8)), (11, (.ptr (some (7, 0)))), (12, (.ptr (some (8, 0)))), (13, (.ptr (some (9, 0)))), (14, (.bool x27))] [(some (.cells (e_table_Table x20.2) false false)), (some (.cells (e_api_Answer x2.1) false false)), (some (.cells (e_api_Answer x3.1) false false)), (some (.cells (e_api_Answer x4.1) false false)), (some (.cells (e_api_Answer x5.1) false false)), (some (.cells (e_api_Answer x6.1) false false)), (some (.cells (e_api_Answer x7.1) false false)), (some (.cells (e_api_Answer x18.1) false false)), (some (.cells (e_api_Answer x19.1) false false)), (some (.cells (e_api_Answer x20.1) false false))] ∧ (((x2.1.Why == 0 && (x2.1.Value == ([] : List UInt8) && true)) = true → (((x3.1.Why == 0 && (x3.1.Value == [51] && true)) = true → (((x4.1.Why == 4) = true → (((x5.1.Why == 4) = true → (((x6.1.Why == 4) = true → (((x7.1.Why == 0 && (x7.1.Value == ([] : List UInt8) && true)) = true → (wP (.idxSlice 2 (.c (l_api_Pair x8)) (.c (.int .i64 0))) = some (.elem ((e_api_Pair x28) ++ F_api_Pair (x8.drop ((0 : Int).toNat + 1)))) ∧ (((x28.Key == [97] && (x28.Value == [120] && true)) = true → (wP (.idxSlice 2 (.c (l_api_Pair x8)) (.c (.int .i64 1))) = some (.elem ((e_api_Pair x29) ++ F_api_Pair (x8.drop ((1 : Int).toNat + 1)))) ∧ (((x29.Key == [98]) = true → (Spec C 53 [(.ptr (some (0, 0)))] [(some (.cells (e_table_Table x20.2) false false))] (.int .i64 x30) [(some (.cells (e_table_Table x20.2) false false))] ∧ (1 ≤ 1 ∧ (((x30 == 8) = true → (((x18.1.Why == 5) = true → (((x19.1.Why == 0) = true → (((x20.1.Why == 1) = true → (((!x27) = true → (Spec C 57 [(.agg (e_api_Op (⟨4, [101, 105, 103, 104, 116, 107, 101, 121], [115, 105, 120, 116, 101, 101, 110, 32, 98, 121, 116, 101, 115, 32, 105, 116], [115, 105, 120, 116, 101, 101, 110, 32, 98, 121, 116, 101, 115, 32, 105, 116]⟩ : api_Op)))] [] (.bool x31) [] ∧ lff out_osmosislaw6_TableKnown x31 r)) ∧ ((!x27) = false → lff out_osmosislaw6_TableKnown false r))) ∧ ((x20.1.Why == 1) = false → lff out_osmosislaw6_TableKnown false r))) ∧ ((x19.1.Why == 0) = false → lff out_osmosislaw6_TableKnown false r))) ∧ ((x18.1.Why == 5) = false → lff out_osmosislaw6_TableKnown false r))) ∧ ((x30 == 8) = false → lff out_osmosislaw6_TableKnown false r))))) ∧ ((x29.Key == [98]) = false → lff out_osmosislaw6_TableKnown false r)))) ∧ ((x28.Key == [97] && (x28.Value == [120] && true)) = false → lff out_osmosislaw6_TableKnown false r)))) ∧ ((x7.1.Why == 0 && (x7.1.Value == ([] : List UInt8) && true)) = false → lff out_osmosislaw6_TableKnown false r))) ∧ ((x6.1.Why == 4) = false → lff out_osmosislaw6_TableKnown false r))) ∧ ((x5.1.Why == 4) = false → lff out_osmosislaw6_TableKnown false r))) ∧ ((x4.1.Why == 4) = false → lff out_osmosislaw6_TableKnown false r))) ∧ ((x3.1.Why == 0 && (x3.1.Value == [51] && true)) = false → lff out_osmosislaw6_TableKnown false r))) ∧ ((x2.1.Why == 0 && (x2.1.Value == ([] : List UInt8) && true)) = false → lff out_osmosislaw6_TableKnown false r)))))))))))))))))))))))))))))) := fun C => by kernel_rfl
  refine spec_of (fun _ _ h => by cases h) rfl atab_14 WF14_ok ((e _).mpr ⟨rfl, by decide, ?_⟩)
  unfold osmosislaw6_TableKnown at h
  obtain ⟨q1, h⟩ := bget hx1 h
  refine ⟨s_table_Of (d + 0) q1, ?_⟩
  refine ⟨by decide, ?_⟩
  obtain ⟨q2, h⟩ := bget hx2 h
  refine ⟨s_table_Table_Do_3 (d + 1) q2, ?_⟩
  refine ⟨by decide, ?_⟩
  obtain ⟨q3, h⟩ := bget hx3 h
  refine ⟨s_table_Table_Do_3 (d + 1) q3, ?_⟩
  refine ⟨by decide, ?_⟩
  obtain ⟨q4, h⟩ := bget hx4 h
  refine ⟨s_table_Table_Do_3 (d + 1) q4, ?_⟩
  refine ⟨by decide, ?_⟩
  obtain ⟨q5, h⟩ := bget hx5 h
  refine ⟨s_table_Table_Do_3 (d + 1) q5, ?_⟩
  refine ⟨by decide, ?_⟩
  obtain ⟨q6, h⟩ := bget hx6 h
  refine ⟨s_table_Table_Do_3 (d + 1) q6, ?_⟩
  refine ⟨by decide, ?_⟩
  obtain ⟨q7, h⟩ := bget hx7 h
  refine ⟨s_table_Table_Do_3 (d + 1) q7, ?_⟩
  refine ⟨by decide, ?_⟩
  obtain ⟨q8, h⟩ := bget hx8 h
  refine ⟨s_table_Table_Pairs (d + 5) q8, ?_⟩
  refine ⟨by decide, ?_⟩
  obtain ⟨q10, h⟩ := bget hx10 h
  refine ⟨fun hb11 => ?_, fun hb11 => ?_⟩
  · have h := cond_t hb11 h
    refine ⟨by have h := s_osmosislaw6_TableKnown_J0 (d + 0) q10; rw [isL_t hb11] at h; exact h, ?_⟩
    exact lff_of h
  · have h := cond_f hb11 h
    refine ⟨by have h := s_osmosislaw6_TableKnown_J0 (d + 0) q10; rw [isL_f hb11] at h; exact h, ?_⟩
    obtain ⟨q17, h⟩ := bget hx17 h
    refine ⟨s_osmosislaw6_TableKnown_L1 (d + 1) q17, ?_⟩
    obtain ⟨q18, h⟩ := bget hx18 h
    refine ⟨s_table_Table_Do_3 (d + 1) q18, ?_⟩
    refine ⟨by decide, ?_⟩
    obtain ⟨q19, h⟩ := bget hx19 h
    refine ⟨s_table_Table_Do_3 (d + 1) q19, ?_⟩
    refine ⟨by decide, ?_⟩
    obtain ⟨q20, h⟩ := bget hx20 h
    refine ⟨s_table_Table_Do_3 (d + 1) q20, ?_⟩
    refine ⟨by decide, ?_⟩
    obtain ⟨q27, h⟩ := bget hx27 h
    refine ⟨s_osmosislaw6_TableKnown_J2 (d + 6) q27, ?_⟩
    refine ⟨fun hb => ?_, fun hb => ?_⟩
    · have h := cond_t hb h
      refine ⟨fun hb => ?_, fun hb => ?_⟩
      · have h := cond_t hb h
        refine ⟨fun hb => ?_, fun hb => ?_⟩
        · have h := cond_t hb h
          refine ⟨fun hb => ?_, fun hb => ?_⟩
          · have h := cond_t hb h
            refine ⟨fun hb => ?_, fun hb => ?_⟩
            · have h := cond_t hb h
              refine ⟨fun hb => ?_, fun hb => ?_⟩
              · have h := cond_t hb h
                obtain ⟨q28, h⟩ := bget hx28 h
                refine ⟨wP_idx R_api_Pair q28, ?_⟩
                refine ⟨fun hb => ?_, fun hb => ?_⟩
                · have h := cond_t hb h
                  obtain ⟨q29, h⟩ := bget hx29 h
                  refine ⟨wP_idx R_api_Pair q29, ?_⟩
                  refine ⟨fun hb => ?_, fun hb => ?_⟩
                  · have h := cond_t hb h
                    obtain ⟨q30, h⟩ := bget hx30 h
                    refine ⟨s_table_Table_Len_2 (d + 6) q30, ?_⟩
                    refine ⟨by decide, ?_⟩
                    refine ⟨fun hb => ?_, fun hb => ?_⟩
                    · have h := cond_t hb h
                      refine ⟨fun hb => ?_, fun hb => ?_⟩
                      · have h := cond_t hb h
                        refine ⟨fun hb => ?_, fun hb => ?_⟩
                        · have h := cond_t hb h
                          refine ⟨fun hb => ?_, fun hb => ?_⟩
                          · have h := cond_t hb h
                            refine ⟨fun hb => ?_, fun hb => ?_⟩
                            · have h := cond_t hb h
                              obtain ⟨q31, h⟩ := bget hx31 h
                              refine ⟨s_table_Right (d + 6) q31, ?_⟩
                              exact lff_of h
                            · have h := cond_f hb h
                              exact lff_of h
                          · have h := cond_f hb h
                            exact lff_of h
                        · have h := cond_f hb h
                          exact lff_of h
                      · have h := cond_f hb h
                        exact lff_of h
                    · have h := cond_f hb h
                      exact lff_of h
                  · have h := cond_f hb h
                    exact lff_of h
                · have h := cond_f hb h
                  exact lff_of h
              · have h := cond_f hb h
                exact lff_of h
            · have h := cond_f hb h
              exact lff_of h
          · have h := cond_f hb h
            exact lff_of h
        · have h := cond_f hb h
          exact lff_of h
      · have h := cond_f hb h
        exact lff_of h
    · have h := cond_f hb h
      exact lff_of h

end Go.Proofs.Ytachollgbplikaa
