/- Functions as Lean functions, part 3. -/
import Derived.Test.YtachollgbplikaaXt
import Derived.Test.YtachollgbplikaaXs
import Derived.Test.YtachollgbplikaaY2
set_option linter.all false
set_option maxRecDepth 100000
namespace Go.Proofs.Ytachollgbplikaa
/- osmosis/osmosislaw6.same -/
def st_osmosislaw6_same_L0 (a : List api_Pair) (p_b : List api_Pair) (s3 : Int) : List AV × WH := ([(l_api_Pair a), (l_api_Pair p_b), (.int .i64 (a.length : Int)), (.int .i64 s3)], [])
def fin_osmosislaw6_same_L0 (a : List api_Pair) (p_b : List api_Pair) : Unit ⊕ Unit → Ex × Fast × WH := fun
  | .inl e => (.ret, [(4, (.bool false))], [])
  | .inr e => ((.exit 0), [], [])
abbrev rx_osmosislaw6_same_L0 (a : List api_Pair) (p_b : List api_Pair) := roundX [0, 1, 12, 13] (st_osmosislaw6_same_L0 a p_b) (fin_osmosislaw6_same_L0 a p_b)
def osmosislaw6_same_L0_s (a : List api_Pair) (p_b : List api_Pair) (s3 : Int) : Option ((Int) ⊕ (Unit ⊕ Unit)) :=
  cond (decide (s3 < (a.length : Int))) ((getI a s3).bind fun (x4 : api_Pair) => (getI p_b s3).bind fun (x5 : api_Pair) => cond (!(x4.Key == x5.Key && (x4.Value == x5.Value && true))) (some (.inr (.inl ()))) (some (.inl (IntKind.i64.wrap (s3 + 1))))) (some (.inr (.inr ())))
def osmosislaw6_same_L0 (a : List api_Pair) (p_b : List api_Pair) (s3 : Int) : Option (Unit ⊕ Unit) := loopX (osmosislaw6_same_L0_s a p_b) KK s3
theorem b_osmosislaw6_same_L0 (d : Nat) {a : List api_Pair} {p_b : List api_Pair} {s3 : Int} {r : (Int) ⊕ (Unit ⊕ Unit)} (h : osmosislaw6_same_L0_s a p_b s3 = some r) : RunX (bexec (wcalls atab (d + 0)) KK 26 WB64_0) 0 (inL [0, 1, 12, 13] (st_osmosislaw6_same_L0 a p_b s3)) (rx_osmosislaw6_same_L0 a p_b r) := by
  obtain ⟨x4, hx4⟩ := wx (getI a s3)
  obtain ⟨x5, hx5⟩ := wx (getI p_b s3)
  have e : ∀ C : ACalls, wCode C (fun _ => none) KK 26 0 WB64_0 (inL [0, 1, 12, 13] (st_osmosislaw6_same_L0 a p_b s3)).1 (inL [0, 1, 12, 13] (st_osmosislaw6_same_L0 a p_b s3)).2 (.br 14 (.v 18 (.elem ((e_api_Pair x4) ++ F_api_Pair (a.drop (s3.toNat + 1)))) (.v 22 (.elem ((e_api_Pair x5) ++ F_api_Pair (p_b.drop (s3.toNat + 1)))) (.br 24 (.en [4] [none] [] []) (.en [0, 1, 12, 13] [none, none, none, none] [] [.slice none 2 0 0 true, .slice none 2 0 0 true, .undef, .undef])))) (.en [] [] [] [])) (rx_osmosislaw6_same_L0 a p_b r) = (((decide (s3 < (a.length : Int))) = true → (wP (.idxSlice 2 (.c (l_api_Pair a)) (.c (.int .i64 s3))) = some (.elem ((e_api_Pair x4) ++ F_api_Pair (a.drop (s3.toNat + 1)))) ∧ (wP (.idxSlice 2 (.c (l_api_Pair p_b)) (.c (.int .i64 s3))) = some (.elem ((e_api_Pair x5) ++ F_api_Pair (p_b.drop (s3.toNat + 1)))) ∧ (((!(x4.Key == x5.Key && (x4.Value == x5.Value && true))) = true → lfe (rx_osmosislaw6_same_L0 a p_b) (.inr (.inl ())) r) ∧ ((!(x4.Key == x5.Key && (x4.Value == x5.Value && true))) = false → lfe (rx_osmosislaw6_same_L0 a p_b) (.inl (IntKind.i64.wrap (s3 + 1))) r))))) ∧ ((decide (s3 < (a.length : Int))) = false → lfe (rx_osmosislaw6_same_L0 a p_b) (.inr (.inr ())) r)) := fun C => by kernel_rfl
  refine runS_of (fun _ _ h => by cases h) WB64_0_ok (Nat.le_of_ble_eq_true rfl) ((e _).mpr ?_)
  unfold osmosislaw6_same_L0_s at h
  refine ⟨fun hb => ?_, fun hb => ?_⟩
  · have h := cond_t hb h
    obtain ⟨q4, h⟩ := bget hx4 h
    refine ⟨wP_idx R_api_Pair q4, ?_⟩
    obtain ⟨q5, h⟩ := bget hx5 h
    refine ⟨wP_idx R_api_Pair q5, ?_⟩
    refine ⟨fun hb => ?_, fun hb => ?_⟩
    · have h := cond_t hb h
      exact lfe_of h
    · have h := cond_f hb h
      exact lfe_of h
  · have h := cond_f hb h
    exact lfe_of h
theorem s_osmosislaw6_same_L0 (d : Nat) {a : List api_Pair} {p_b : List api_Pair} {s3 : Int} {r : Unit ⊕ Unit} (h : osmosislaw6_same_L0 a p_b s3 = some r) : RunX (bloop (bexec (wcalls atab (d + 0)) KK 26 WB64_0) [0, 1, 12, 13] KK) 0 (inL [0, 1, 12, 13] (st_osmosislaw6_same_L0 a p_b s3)) (fin_osmosislaw6_same_L0 a p_b r) :=
  loop_of (st := st_osmosislaw6_same_L0 a p_b) (fin := fin_osmosislaw6_same_L0 a p_b) (step := osmosislaw6_same_L0_s a p_b) (fun e => by rcases e with e | e <;> (intro h; cases h)) (fun s x h => b_osmosislaw6_same_L0 d h) KK s3 r h

def osmosislaw6_same (a : List api_Pair) (p_b : List api_Pair) : Option (Bool) :=
  cond ((a.length : Int) != (p_b.length : Int)) (some false) ((osmosislaw6_same_L0 a p_b 0).bind fun (x6 : Unit ⊕ Unit) => cond (isL x6) (some false) (some true))
def out_osmosislaw6_same (a : List api_Pair) (p_b : List api_Pair) (r : Bool) : AV × WH := ((.bool r), [])

theorem s_osmosislaw6_same (d : Nat) {a : List api_Pair} {p_b : List api_Pair} {r : Bool} (h : osmosislaw6_same a p_b = some r) : Spec (wcalls atab (d + 1)) 64 [(l_api_Pair a), (l_api_Pair p_b)] [] (out_osmosislaw6_same a p_b r).1 (out_osmosislaw6_same a p_b r).2 := by
  obtain ⟨x6, hx6⟩ := wx (osmosislaw6_same_L0 a p_b 0)
  have e : ∀ C : ACalls, wBody C (fun _ => none) KK WF64 [(l_api_Pair a), (l_api_Pair p_b)] [] (.br 10 (.fin (some false) [] none) (.ite (isL x6) (.lp [none, none, none, none] [] [.slice none 2 0 0 true, .slice none 2 0 0 true, .undef, .undef] .ret [(4, (.bool false))] [] (.fin (some false) [] none)) (.lp [none, none, none, none] [] [.slice none 2 0 0 true, .slice none 2 0 0 true, .undef, .undef] (.exit 0) [] [] (.fin (some false) [] none)))) (out_osmosislaw6_same a p_b r).1 (out_osmosislaw6_same a p_b r).2 = (2 = 2 ∧ 2 ≤ 26 ∧ ((((a.length : Int) != (p_b.length : Int)) = true → lff (out_osmosislaw6_same a p_b) false r) ∧ (((a.length : Int) != (p_b.length : Int)) = false → (((isL x6) = true → (RunS (bloop (bexec C KK 26 WB64_0) [0, 1, 12, 13] KK) 0 [(0, (l_api_Pair a)), (1, (l_api_Pair p_b)), (12, (.int .i64 (a.length : Int))), (13, (.int .i64 0))] [] .ret [(4, (.bool false))] [] ∧ lff (out_osmosislaw6_same a p_b) false r)) ∧ ((isL x6) = false → (RunS (bloop (bexec C KK 26 WB64_0) [0, 1, 12, 13] KK) 0 [(0, (l_api_Pair a)), (1, (l_api_Pair p_b)), (12, (.int .i64 (a.length : Int))), (13, (.int .i64 0))] [] (.exit 0) [] [] ∧ lff (out_osmosislaw6_same a p_b) true r)))))) := fun C => by kernel_rfl
  refine spec_of (fun _ _ h => by cases h) rfl atab_64 WF64_ok ((e _).mpr ⟨rfl, by decide, ?_⟩)
  unfold osmosislaw6_same at h
  refine ⟨fun hb => ?_, fun hb => ?_⟩
  · have h := cond_t hb h
    exact lff_of h
  · have h := cond_f hb h
    obtain ⟨q6, h⟩ := bget hx6 h
    refine ⟨fun hb7 => ?_, fun hb7 => ?_⟩
    · have h := cond_t hb7 h
      refine ⟨by have h := s_osmosislaw6_same_L0 (d + 0) q6; rw [isL_t hb7] at h; exact h, ?_⟩
      exact lff_of h
    · have h := cond_f hb7 h
      refine ⟨by have h := s_osmosislaw6_same_L0 (d + 0) q6; rw [isL_f hb7] at h; exact h, ?_⟩
      exact lff_of h

/- (*osmosis/table.Table).Pairs -/
def table_Table_Pairs_2 (t : table_Table) : Option (List api_Pair) :=
  gd (fitsB 32 t.l.length) (some t.l)
def out_table_Table_Pairs_2 (t : table_Table) (r : List api_Pair) : AV × WH := ((.acc 1 0 2 r.length true), [(some (.cells (e_table_Table t) false false)), (some (.cells (F_api_Pair r) false true))])

theorem s_table_Table_Pairs_2 (d : Nat) {t : table_Table} {r : List api_Pair} (h : table_Table_Pairs_2 t = some r) : Spec (wcalls atab (d + 2)) 54 [(.ptr (some (0, 0)))] [(some (.cells (e_table_Table t) false false))] (out_table_Table_Pairs_2 t r).1 (out_table_Table_Pairs_2 t r).2 := by
  have e : ∀ C : ACalls, wBody C wB KK WF54 [(.ptr (some (0, 0)))] [(some (.cells (e_table_Table t) false false))] (.z 2 [.slice none 2 0 0 true] (.fin none [.slice none 2 0 0 true] none)) (out_table_Table_Pairs_2 t r).1 (out_table_Table_Pairs_2 t r).2 = (1 = 1 ∧ 1 ≤ 9 ∧ (fitsB 32 t.l.length = true ∧ lff (out_table_Table_Pairs_2 t) t.l r)) := fun C => by kernel_rfl
  refine spec_of (wB_ok _) rfl atab_54 WF54_ok ((e _).mpr ⟨rfl, by decide, ?_⟩)
  unfold table_Table_Pairs_2 at h
  obtain ⟨q1, h⟩ := gd_some h
  refine ⟨q1, ?_⟩
  exact lff_of h

/- osmosis/osmosislaw6.TableValue -/
def st_osmosislaw6_TableValue_L0 (first : List Int) (a : List osmosishand_RawOp) (p_b : List osmosishand_RawOp) (s9 : Int × List api_Pair) : List AV × WH := ([(l_osmosishand_RawOp a), (l_osmosishand_RawOp p_b), (.acc 0 0 2 s9.2.length true), (l_I first), (.int .i64 (first.length : Int)), (.int .i64 s9.1)], [(some (.cells (F_api_Pair s9.2) false true))])
def fin_osmosislaw6_TableValue_L0 (first : List Int) (a : List osmosishand_RawOp) (p_b : List osmosishand_RawOp) : (List api_Pair) → Ex × Fast × WH := fun e => ((.exit 0), [(1, (l_osmosishand_RawOp a)), (2, (l_osmosishand_RawOp p_b)), (7, (.acc 0 0 2 e.length true))], [(some (.cells (F_api_Pair e) false true))])
abbrev rx_osmosislaw6_TableValue_L0 (first : List Int) (a : List osmosishand_RawOp) (p_b : List osmosishand_RawOp) := roundX [1, 2, 7, 23, 24, 25] (st_osmosislaw6_TableValue_L0 first a p_b) (fin_osmosislaw6_TableValue_L0 first a p_b)
def osmosislaw6_TableValue_L0_s (first : List Int) (a : List osmosishand_RawOp) (p_b : List osmosishand_RawOp) (s9 : Int × List api_Pair) : Option ((Int × List api_Pair) ⊕ ((List api_Pair))) :=
  cond (decide (s9.1 < (first.length : Int))) ((getI first s9.1).bind fun (x10 : Int) => (osmosishand_Key x10).bind fun (x11 : List UInt8) => (osmosishand_Value (IntKind.i64.wrap (Int.tdiv x10 16))).bind fun (x12 : List UInt8) => gd (fitsB 32 (s9.2 ++ [(⟨x11, x12⟩ : api_Pair)]).length) (some (.inl ((IntKind.i64.wrap (s9.1 + 1)), (s9.2 ++ [(⟨x11, x12⟩ : api_Pair)]))))) (some (.inr s9.2))
def osmosislaw6_TableValue_L0 (first : List Int) (a : List osmosishand_RawOp) (p_b : List osmosishand_RawOp) (s9 : Int × List api_Pair) : Option ((List api_Pair)) := loopX (osmosislaw6_TableValue_L0_s first a p_b) KK s9
theorem b_osmosislaw6_TableValue_L0 (d : Nat) {first : List Int} {a : List osmosishand_RawOp} {p_b : List osmosishand_RawOp} {s9 : Int × List api_Pair} {r : (Int × List api_Pair) ⊕ ((List api_Pair))} (h : osmosislaw6_TableValue_L0_s first a p_b s9 = some r) : RunX (bexec (wcalls atab (d + 2)) KK 119 WB16_0) 0 (inL [1, 2, 7, 23, 24, 25] (st_osmosislaw6_TableValue_L0 first a p_b s9)) (rx_osmosislaw6_TableValue_L0 first a p_b r) := by
  obtain ⟨x10, hx10⟩ := wx (getI first s9.1)
  obtain ⟨x11, hx11⟩ := wx (osmosishand_Key x10)
  obtain ⟨x12, hx12⟩ := wx (osmosishand_Value (IntKind.i64.wrap (Int.tdiv x10 16)))
  have e : ∀ C : ACalls, wCode C (fun _ => none) KK 119 0 WB16_0 (inL [1, 2, 7, 23, 24, 25] (st_osmosislaw6_TableValue_L0 first a p_b s9)).1 (inL [1, 2, 7, 23, 24, 25] (st_osmosislaw6_TableValue_L0 first a p_b s9)).2 (.br 26 (.v 27 (.elem ([(.int .i64 x10)] ++ F_I (first.drop (s9.1.toNat + 1)))) (.cb [] [] (.str x11) (.cb [] [] (.str x12) (.ap 37 (s9.2 ++ [(⟨x11, x12⟩ : api_Pair)]).length (F_api_Pair (s9.2 ++ [(⟨x11, x12⟩ : api_Pair)])) (.en [1, 2, 7, 23, 24, 25] [none, none, none, none, none, none] [] [.slice none 8 0 0 true, .slice none 8 0 0 true, .slice none 2 0 0 true, .undef, .undef, .undef]))))) (.en [1, 2, 7] [none, none, none] [] [.slice none 8 0 0 true, .slice none 8 0 0 true, .slice none 2 0 0 true])) (rx_osmosislaw6_TableValue_L0 first a p_b r) = (((decide (s9.1 < (first.length : Int))) = true → (wP (.idxSlice 1 (.c (l_I first)) (.c (.int .i64 s9.1))) = some (.elem ([(.int .i64 x10)] ++ F_I (first.drop (s9.1.toNat + 1)))) ∧ (Spec C 58 [(.int .i64 x10)] [] (.str x11) [] ∧ (Spec C 59 [(.int .i64 (IntKind.i64.wrap (Int.tdiv x10 16)))] [] (.str x12) [] ∧ (s9.2.length + 1 = (s9.2 ++ [(⟨x11, x12⟩ : api_Pair)]).length ∧ (F_api_Pair s9.2 ++ F_api_Pair ([(⟨x11, x12⟩ : api_Pair)]) = F_api_Pair (s9.2 ++ [(⟨x11, x12⟩ : api_Pair)]) ∧ (fitsB 32 (s9.2 ++ [(⟨x11, x12⟩ : api_Pair)]).length = true ∧ lfe (rx_osmosislaw6_TableValue_L0 first a p_b) (.inl ((IntKind.i64.wrap (s9.1 + 1)), (s9.2 ++ [(⟨x11, x12⟩ : api_Pair)]))) r))))))) ∧ ((decide (s9.1 < (first.length : Int))) = false → lfe (rx_osmosislaw6_TableValue_L0 first a p_b) (.inr s9.2) r)) := fun C => by kernel_rfl
  refine runS_of (fun _ _ h => by cases h) WB16_0_ok (Nat.le_of_ble_eq_true rfl) ((e _).mpr ?_)
  unfold osmosislaw6_TableValue_L0_s at h
  refine ⟨fun hb => ?_, fun hb => ?_⟩
  · have h := cond_t hb h
    obtain ⟨q10, h⟩ := bget hx10 h
    refine ⟨wP_idx R_I q10, ?_⟩
    obtain ⟨q11, h⟩ := bget hx11 h
    refine ⟨s_osmosishand_Key (d + 0) q11, ?_⟩
    obtain ⟨q12, h⟩ := bget hx12 h
    refine ⟨s_osmosishand_Value (d + 0) q12, ?_⟩
    obtain ⟨q13, h⟩ := gd_some h
    refine ⟨by simp, ?_⟩
    refine ⟨(Row.app R_api_Pair _ _).symm, ?_⟩
    refine ⟨q13, ?_⟩
    exact lfe_of h
  · have h := cond_f hb h
    exact lfe_of h
theorem s_osmosislaw6_TableValue_L0 (d : Nat) {first : List Int} {a : List osmosishand_RawOp} {p_b : List osmosishand_RawOp} {s9 : Int × List api_Pair} {r : (List api_Pair)} (h : osmosislaw6_TableValue_L0 first a p_b s9 = some r) : RunX (bloop (bexec (wcalls atab (d + 2)) KK 119 WB16_0) [1, 2, 7, 23, 24, 25] KK) 0 (inL [1, 2, 7, 23, 24, 25] (st_osmosislaw6_TableValue_L0 first a p_b s9)) (fin_osmosislaw6_TableValue_L0 first a p_b r) :=
  loop_of (st := st_osmosislaw6_TableValue_L0 first a p_b) (fin := fin_osmosislaw6_TableValue_L0 first a p_b) (step := osmosislaw6_TableValue_L0_s first a p_b) (fun e => by (intro h; cases h)) (fun s x h => b_osmosislaw6_TableValue_L0 d h) KK s9 r h

def st_osmosislaw6_TableValue_L1 (a : List osmosishand_RawOp) (p_b : List osmosishand_RawOp) (x18 : List api_Pair) (x15 : table_Table) (x17 : table_Table) (s22 : Int × table_Table) : List AV × WH := ([(l_osmosishand_RawOp a), (l_osmosishand_RawOp p_b), (.ptr (some (0, 0))), (.ptr (some (1, 0))), (.ptr (some (2, 0))), (l_api_Pair x18), (l_osmosishand_RawOp a), (.int .i64 (a.length : Int)), (.int .i64 s22.1)], [(some (.cells (e_table_Table x15) false false)), (some (.cells (e_table_Table s22.2) false false)), (some (.cells (e_table_Table x17) false false))])
def fin_osmosislaw6_TableValue_L1 (a : List osmosishand_RawOp) (p_b : List osmosishand_RawOp) (x18 : List api_Pair) (x15 : table_Table) (x17 : table_Table) : table_Table → Ex × Fast × WH := fun e => ((.exit 2), [(1, (l_osmosishand_RawOp a)), (2, (l_osmosishand_RawOp p_b)), (10, (.ptr (some (0, 0)))), (11, (.ptr (some (1, 0)))), (12, (.ptr (some (2, 0)))), (13, (l_api_Pair x18))], [(some (.cells (e_table_Table x15) false false)), (some (.cells (e_table_Table e) false false)), (some (.cells (e_table_Table x17) false false))])
abbrev rx_osmosislaw6_TableValue_L1 (a : List osmosishand_RawOp) (p_b : List osmosishand_RawOp) (x18 : List api_Pair) (x15 : table_Table) (x17 : table_Table) := roundX [1, 2, 10, 11, 12, 13, 45, 46, 47] (st_osmosislaw6_TableValue_L1 a p_b x18 x15 x17) (fin_osmosislaw6_TableValue_L1 a p_b x18 x15 x17)
def osmosislaw6_TableValue_L1_s (a : List osmosishand_RawOp) (p_b : List osmosishand_RawOp) (x18 : List api_Pair) (x15 : table_Table) (x17 : table_Table) (s22 : Int × table_Table) : Option ((Int × table_Table) ⊕ (table_Table)) :=
  cond (decide (s22.1 < (a.length : Int))) ((getI a s22.1).bind fun (x23 : osmosishand_RawOp) => (osmosishand_Op x23.Kind x23.Key x23.Value x23.Old).bind fun (x24 : api_Op) => (table_Table_Do_3 x24 s22.2).bind fun (x25 : api_Answer × table_Table) => some (.inl ((IntKind.i64.wrap (s22.1 + 1)), x25.2))) (some (.inr s22.2))
def osmosislaw6_TableValue_L1 (a : List osmosishand_RawOp) (p_b : List osmosishand_RawOp) (x18 : List api_Pair) (x15 : table_Table) (x17 : table_Table) (s22 : Int × table_Table) : Option (table_Table) := loopX (osmosislaw6_TableValue_L1_s a p_b x18 x15 x17) KK s22
theorem b_osmosislaw6_TableValue_L1 (d : Nat) {a : List osmosishand_RawOp} {p_b : List osmosishand_RawOp} {x18 : List api_Pair} {x15 : table_Table} {x17 : table_Table} {s22 : Int × table_Table} {r : (Int × table_Table) ⊕ (table_Table)} (h : osmosislaw6_TableValue_L1_s a p_b x18 x15 x17 s22 = some r) : RunX (bexec (wcalls atab (d + 6)) KK 119 WB16_1) 0 (inL [1, 2, 10, 11, 12, 13, 45, 46, 47] (st_osmosislaw6_TableValue_L1 a p_b x18 x15 x17 s22)) (rx_osmosislaw6_TableValue_L1 a p_b x18 x15 x17 r) := by
  obtain ⟨x23, hx23⟩ := wx (getI a s22.1)
  obtain ⟨x24, hx24⟩ := wx (osmosishand_Op x23.Kind x23.Key x23.Value x23.Old)
  obtain ⟨x25, hx25⟩ := wx (table_Table_Do_3 x24 s22.2)
  have e : ∀ C : ACalls, wCode C (fun _ => none) KK 119 0 WB16_1 (inL [1, 2, 10, 11, 12, 13, 45, 46, 47] (st_osmosislaw6_TableValue_L1 a p_b x18 x15 x17 s22)).1 (inL [1, 2, 10, 11, 12, 13, 45, 46, 47] (st_osmosislaw6_TableValue_L1 a p_b x18 x15 x17 s22)).2 (.br 48 (.v 49 (.elem ((e_osmosishand_RawOp x23) ++ F_osmosishand_RawOp (a.drop (s22.1.toNat + 1)))) (.st none (.cb [] [] (.agg (e_api_Op x24)) (.call [] (some false) [] (.agg (e_api_Answer x25.1)) [(some (.cells (e_table_Table x25.2) false false))] (.en [1, 2, 10, 11, 12, 13, 45, 46, 47] [none, none, none, none, none, none, none, none, none] [] [.slice none 8 0 0 true, .slice none 8 0 0 true, .undef, .undef, .undef, .slice none 2 0 0 true, .slice none 8 0 0 true, .undef, .undef]))))) (.en [1, 2, 10, 11, 12, 13] [none, none, none, none, none, none] [] [.slice none 8 0 0 true, .slice none 8 0 0 true, .undef, .undef, .undef, .slice none 2 0 0 true])) (rx_osmosislaw6_TableValue_L1 a p_b x18 x15 x17 r) = (((decide (s22.1 < (a.length : Int))) = true → (wP (.idxSlice 8 (.c (l_osmosishand_RawOp a)) (.c (.int .i64 s22.1))) = some (.elem ((e_osmosishand_RawOp x23) ++ F_osmosishand_RawOp (a.drop (s22.1.toNat + 1)))) ∧ (Spec C 51 [(.int .i64 x23.Kind), (.int .i64 x23.Key), (.int .i64 x23.Value), (.int .i64 x23.Old)] [] (.agg (e_api_Op x24)) [] ∧ (Spec C 52 [(.ptr (some (0, 0))), (.agg (e_api_Op x24))] [(some (.cells (e_table_Table s22.2) false false))] (.agg (e_api_Answer x25.1)) [(some (.cells (e_table_Table x25.2) false false))] ∧ (1 ≤ 1 ∧ lfe (rx_osmosislaw6_TableValue_L1 a p_b x18 x15 x17) (.inl ((IntKind.i64.wrap (s22.1 + 1)), x25.2)) r))))) ∧ ((decide (s22.1 < (a.length : Int))) = false → lfe (rx_osmosislaw6_TableValue_L1 a p_b x18 x15 x17) (.inr s22.2) r)) := fun C => by kernel_rfl
  refine runS_of (fun _ _ h => by cases h) WB16_1_ok (Nat.le_of_ble_eq_true rfl) ((e _).mpr ?_)
  unfold osmosislaw6_TableValue_L1_s at h
  refine ⟨fun hb => ?_, fun hb => ?_⟩
  · have h := cond_t hb h
    obtain ⟨q23, h⟩ := bget hx23 h
    refine ⟨wP_idx R_osmosishand_RawOp q23, ?_⟩
    obtain ⟨q24, h⟩ := bget hx24 h
    refine ⟨s_osmosishand_Op (d + 3) q24, ?_⟩
    obtain ⟨q25, h⟩ := bget hx25 h
    refine ⟨s_table_Table_Do_3 (d + 0) q25, ?_⟩
    refine ⟨by decide, ?_⟩
    exact lfe_of h
  · have h := cond_f hb h
    exact lfe_of h
theorem s_osmosislaw6_TableValue_L1 (d : Nat) {a : List osmosishand_RawOp} {p_b : List osmosishand_RawOp} {x18 : List api_Pair} {x15 : table_Table} {x17 : table_Table} {s22 : Int × table_Table} {r : table_Table} (h : osmosislaw6_TableValue_L1 a p_b x18 x15 x17 s22 = some r) : RunX (bloop (bexec (wcalls atab (d + 6)) KK 119 WB16_1) [1, 2, 10, 11, 12, 13, 45, 46, 47] KK) 0 (inL [1, 2, 10, 11, 12, 13, 45, 46, 47] (st_osmosislaw6_TableValue_L1 a p_b x18 x15 x17 s22)) (fin_osmosislaw6_TableValue_L1 a p_b x18 x15 x17 r) :=
  loop_of (st := st_osmosislaw6_TableValue_L1 a p_b x18 x15 x17) (fin := fin_osmosislaw6_TableValue_L1 a p_b x18 x15 x17) (step := osmosislaw6_TableValue_L1_s a p_b x18 x15 x17) (fun e => by (intro h; cases h)) (fun s x h => b_osmosislaw6_TableValue_L1 d h) KK s22 r h

def st_osmosislaw6_TableValue_L2 (x27 : List api_Pair) (a : List osmosishand_RawOp) (p_b : List osmosishand_RawOp) (x18 : List api_Pair) (x15 : table_Table) (x26 : table_Table) (x17 : table_Table) (s29 : Int × List api_Pair) : List AV × WH := ([(l_osmosishand_RawOp a), (l_osmosishand_RawOp p_b), (.ptr (some (0, 0))), (.ptr (some (1, 0))), (.ptr (some (2, 0))), (l_api_Pair x18), (.acc 3 0 2 s29.2.length true), (.int .i64 (x27.length : Int)), (.int .i64 s29.1)], [(some (.cells (e_table_Table x15) false false)), (some (.cells (e_table_Table x26) false false)), (some (.cells (e_table_Table x17) false false)), (some (.cells (F_api_Pair s29.2) false true))])
def fin_osmosislaw6_TableValue_L2 (x27 : List api_Pair) (a : List osmosishand_RawOp) (p_b : List osmosishand_RawOp) (x18 : List api_Pair) (x15 : table_Table) (x26 : table_Table) (x17 : table_Table) : Unit → Ex × Fast × WH := fun e => ((.exit 4), [(1, (l_osmosishand_RawOp a)), (2, (l_osmosishand_RawOp p_b)), (10, (.ptr (some (0, 0)))), (11, (.ptr (some (1, 0)))), (12, (.ptr (some (2, 0)))), (13, (l_api_Pair x18))], [(some (.cells (e_table_Table x15) false false)), (some (.cells (e_table_Table x26) false false)), (some (.cells (e_table_Table x17) false false))])
abbrev rx_osmosislaw6_TableValue_L2 (x27 : List api_Pair) (a : List osmosishand_RawOp) (p_b : List osmosishand_RawOp) (x18 : List api_Pair) (x15 : table_Table) (x26 : table_Table) (x17 : table_Table) := roundX [1, 2, 10, 11, 12, 13, 16, 64, 65] (st_osmosislaw6_TableValue_L2 x27 a p_b x18 x15 x26 x17) (fin_osmosislaw6_TableValue_L2 x27 a p_b x18 x15 x26 x17)
def osmosislaw6_TableValue_L2_s (x27 : List api_Pair) (a : List osmosishand_RawOp) (p_b : List osmosishand_RawOp) (x18 : List api_Pair) (x15 : table_Table) (x26 : table_Table) (x17 : table_Table) (s29 : Int × List api_Pair) : Option ((Int × List api_Pair) ⊕ (Unit)) :=
  cond (decide (s29.1 < (x27.length : Int))) ((getI s29.2 s29.1).bind fun (x30 : api_Pair) => some (.inl ((IntKind.i64.wrap (s29.1 + 1)), (s29.2.set s29.1.toNat (⟨x30.Key, [111, 116, 104, 101, 114]⟩ : api_Pair))))) (some (.inr ()))
def osmosislaw6_TableValue_L2 (x27 : List api_Pair) (a : List osmosishand_RawOp) (p_b : List osmosishand_RawOp) (x18 : List api_Pair) (x15 : table_Table) (x26 : table_Table) (x17 : table_Table) (s29 : Int × List api_Pair) : Option (Unit) := loopX (osmosislaw6_TableValue_L2_s x27 a p_b x18 x15 x26 x17) KK s29
theorem b_osmosislaw6_TableValue_L2 (d : Nat) {x27 : List api_Pair} {a : List osmosishand_RawOp} {p_b : List osmosishand_RawOp} {x18 : List api_Pair} {x15 : table_Table} {x26 : table_Table} {x17 : table_Table} {s29 : Int × List api_Pair} {r : (Int × List api_Pair) ⊕ (Unit)} (h : osmosislaw6_TableValue_L2_s x27 a p_b x18 x15 x26 x17 s29 = some r) : RunX (bexec (wcalls atab (d + 0)) KK 119 WB16_2) 0 (inL [1, 2, 10, 11, 12, 13, 16, 64, 65] (st_osmosislaw6_TableValue_L2 x27 a p_b x18 x15 x26 x17 s29)) (rx_osmosislaw6_TableValue_L2 x27 a p_b x18 x15 x26 x17 r) := by
  obtain ⟨x30, hx30⟩ := wx (getI s29.2 s29.1)
  have e : ∀ C : ACalls, wCode C (fun _ => none) KK 119 0 WB16_2 (inL [1, 2, 10, 11, 12, 13, 16, 64, 65] (st_osmosislaw6_TableValue_L2 x27 a p_b x18 x15 x26 x17 s29)).1 (inL [1, 2, 10, 11, 12, 13, 16, 64, 65] (st_osmosislaw6_TableValue_L2 x27 a p_b x18 x15 x26 x17 s29)).2 (.br 66 (.v 70 (.ptr (some (3, 0 + s29.1.toNat * 2))) (.st (some (F_api_Pair (s29.2.set s29.1.toNat (⟨x30.Key, [111, 116, 104, 101, 114]⟩ : api_Pair)))) (.en [1, 2, 10, 11, 12, 13, 16, 64, 65] [none, none, none, none, none, none, none, none, none] [] [.slice none 8 0 0 true, .slice none 8 0 0 true, .undef, .undef, .undef, .slice none 2 0 0 true, .slice none 2 0 0 true, .undef, .undef]))) (.en [1, 2, 10, 11, 12, 13] [none, none, none, none, none, none] [] [.slice none 8 0 0 true, .slice none 8 0 0 true, .undef, .undef, .undef, .slice none 2 0 0 true])) (rx_osmosislaw6_TableValue_L2 x27 a p_b x18 x15 x26 x17 r) = (((decide (s29.1 < (x27.length : Int))) = true → (wP (.idxSlice 2 (.c (.acc 3 0 2 s29.2.length true)) (.c (.int .i64 s29.1))) = some (.ptr (some (3, 0 + s29.1.toNat * 2))) ∧ (wrC (F_api_Pair s29.2) (0 + s29.1.toNat * 2 + 1) [(.str ([111, 116, 104, 101, 114]))] = some (F_api_Pair (s29.2.set s29.1.toNat (⟨x30.Key, [111, 116, 104, 101, 114]⟩ : api_Pair))) ∧ (.normal = (rx_osmosislaw6_TableValue_L2 x27 a p_b x18 x15 x26 x17 r).1 ∧ [(1, (l_osmosishand_RawOp a)), (2, (l_osmosishand_RawOp p_b)), (10, (.ptr (some (0, 0)))), (11, (.ptr (some (1, 0)))), (12, (.ptr (some (2, 0)))), (13, (l_api_Pair x18)), (16, (.acc 3 0 2 s29.2.length true)), (64, (.int .i64 (x27.length : Int))), (65, (.int .i64 (IntKind.i64.wrap (s29.1 + 1))))] = (rx_osmosislaw6_TableValue_L2 x27 a p_b x18 x15 x26 x17 r).2.1 ∧ [(some (.cells (e_table_Table x15) false false)), (some (.cells (e_table_Table x26) false false)), (some (.cells (e_table_Table x17) false false)), (some (.cells (F_api_Pair (s29.2.set s29.1.toNat (⟨x30.Key, [111, 116, 104, 101, 114]⟩ : api_Pair))) false true))] = (rx_osmosislaw6_TableValue_L2 x27 a p_b x18 x15 x26 x17 r).2.2)))) ∧ ((decide (s29.1 < (x27.length : Int))) = false → lfe (rx_osmosislaw6_TableValue_L2 x27 a p_b x18 x15 x26 x17) (.inr ()) r)) := fun C => by kernel_rfl
  refine runS_of (fun _ _ h => by cases h) WB16_2_ok (Nat.le_of_ble_eq_true rfl) ((e _).mpr ?_)
  unfold osmosislaw6_TableValue_L2_s at h
  refine ⟨fun hb => ?_, fun hb => ?_⟩
  · have h := cond_t hb h
    obtain ⟨q30, h⟩ := bget hx30 h
    refine ⟨wP_idxA R_api_Pair q30, ?_⟩
    refine ⟨wr_row (o := 1) R_api_Pair q30 rfl, ?_⟩
    try rw [show AV.list 2 s29.2.length (F_api_Pair (s29.2.set s29.1.toNat (⟨x30.Key, [111, 116, 104, 101, 114]⟩ : api_Pair))) false = l_api_Pair (s29.2.set s29.1.toNat (⟨x30.Key, [111, 116, 104, 101, 114]⟩ : api_Pair)) from by simp only [l_api_Pair, List.length_set]]
    obtain rfl := Option.some.inj h
    refine ⟨rfl, ?_, ?_⟩ <;> first | rfl | (simp only [rx_osmosislaw6_TableValue_L2, roundX, zipKeep, fin_osmosislaw6_TableValue_L2, st_osmosislaw6_TableValue_L2, List.length_set, List.length_append, List.length_replicate, List.length_cons, List.length_nil, Nat.add_zero, Nat.zero_add]; done) | simp [rx_osmosislaw6_TableValue_L2, roundX, zipKeep, fin_osmosislaw6_TableValue_L2, st_osmosislaw6_TableValue_L2]
  · have h := cond_f hb h
    exact lfe_of h
theorem s_osmosislaw6_TableValue_L2 (d : Nat) {x27 : List api_Pair} {a : List osmosishand_RawOp} {p_b : List osmosishand_RawOp} {x18 : List api_Pair} {x15 : table_Table} {x26 : table_Table} {x17 : table_Table} {s29 : Int × List api_Pair} {r : Unit} (h : osmosislaw6_TableValue_L2 x27 a p_b x18 x15 x26 x17 s29 = some r) : RunX (bloop (bexec (wcalls atab (d + 0)) KK 119 WB16_2) [1, 2, 10, 11, 12, 13, 16, 64, 65] KK) 0 (inL [1, 2, 10, 11, 12, 13, 16, 64, 65] (st_osmosislaw6_TableValue_L2 x27 a p_b x18 x15 x26 x17 s29)) (fin_osmosislaw6_TableValue_L2 x27 a p_b x18 x15 x26 x17 r) :=
  loop_of (st := st_osmosislaw6_TableValue_L2 x27 a p_b x18 x15 x26 x17) (fin := fin_osmosislaw6_TableValue_L2 x27 a p_b x18 x15 x26 x17) (step := osmosislaw6_TableValue_L2_s x27 a p_b x18 x15 x26 x17) (fun e => by (intro h; cases h)) (fun s x h => b_osmosislaw6_TableValue_L2 d h) KK s29 r h

def st_osmosislaw6_TableValue_L3 (p_b : List osmosishand_RawOp) (a : List osmosishand_RawOp) (x18 : List api_Pair) (x15 : table_Table) (x26 : table_Table) (s35 : Int × table_Table) : List AV × WH := ([(l_osmosishand_RawOp a), (.ptr (some (0, 0))), (.ptr (some (1, 0))), (.ptr (some (2, 0))), (l_api_Pair x18), (l_osmosishand_RawOp p_b), (.int .i64 (p_b.length : Int)), (.int .i64 s35.1)], [(some (.cells (e_table_Table x15) false false)), (some (.cells (e_table_Table x26) false false)), (some (.cells (e_table_Table s35.2) false false))])
def fin_osmosislaw6_TableValue_L3 (p_b : List osmosishand_RawOp) (a : List osmosishand_RawOp) (x18 : List api_Pair) (x15 : table_Table) (x26 : table_Table) : Unit → Ex × Fast × WH := fun e => ((.exit 6), [(1, (l_osmosishand_RawOp a)), (10, (.ptr (some (0, 0)))), (11, (.ptr (some (1, 0)))), (13, (l_api_Pair x18))], [(some (.cells (e_table_Table x15) false false)), (some (.cells (e_table_Table x26) false false))])
abbrev rx_osmosislaw6_TableValue_L3 (p_b : List osmosishand_RawOp) (a : List osmosishand_RawOp) (x18 : List api_Pair) (x15 : table_Table) (x26 : table_Table) := roundX [1, 10, 11, 12, 13, 73, 74, 75] (st_osmosislaw6_TableValue_L3 p_b a x18 x15 x26) (fin_osmosislaw6_TableValue_L3 p_b a x18 x15 x26)
def osmosislaw6_TableValue_L3_s (p_b : List osmosishand_RawOp) (a : List osmosishand_RawOp) (x18 : List api_Pair) (x15 : table_Table) (x26 : table_Table) (s35 : Int × table_Table) : Option ((Int × table_Table) ⊕ (Unit)) :=
  cond (decide (s35.1 < (p_b.length : Int))) ((getI p_b s35.1).bind fun (x36 : osmosishand_RawOp) => (osmosishand_Op x36.Kind x36.Key x36.Value x36.Old).bind fun (x37 : api_Op) => (table_Table_Do_3 x37 s35.2).bind fun (x38 : api_Answer × table_Table) => some (.inl ((IntKind.i64.wrap (s35.1 + 1)), x38.2))) (some (.inr ()))
def osmosislaw6_TableValue_L3 (p_b : List osmosishand_RawOp) (a : List osmosishand_RawOp) (x18 : List api_Pair) (x15 : table_Table) (x26 : table_Table) (s35 : Int × table_Table) : Option (Unit) := loopX (osmosislaw6_TableValue_L3_s p_b a x18 x15 x26) KK s35
theorem b_osmosislaw6_TableValue_L3 (d : Nat) {p_b : List osmosishand_RawOp} {a : List osmosishand_RawOp} {x18 : List api_Pair} {x15 : table_Table} {x26 : table_Table} {s35 : Int × table_Table} {r : (Int × table_Table) ⊕ (Unit)} (h : osmosislaw6_TableValue_L3_s p_b a x18 x15 x26 s35 = some r) : RunX (bexec (wcalls atab (d + 6)) KK 119 WB16_3) 0 (inL [1, 10, 11, 12, 13, 73, 74, 75] (st_osmosislaw6_TableValue_L3 p_b a x18 x15 x26 s35)) (rx_osmosislaw6_TableValue_L3 p_b a x18 x15 x26 r) := by
  obtain ⟨x36, hx36⟩ := wx (getI p_b s35.1)
  obtain ⟨x37, hx37⟩ := wx (osmosishand_Op x36.Kind x36.Key x36.Value x36.Old)
  obtain ⟨x38, hx38⟩ := wx (table_Table_Do_3 x37 s35.2)
  have e : ∀ C : ACalls, wCode C (fun _ => none) KK 119 0 WB16_3 (inL [1, 10, 11, 12, 13, 73, 74, 75] (st_osmosislaw6_TableValue_L3 p_b a x18 x15 x26 s35)).1 (inL [1, 10, 11, 12, 13, 73, 74, 75] (st_osmosislaw6_TableValue_L3 p_b a x18 x15 x26 s35)).2 (.br 76 (.v 77 (.elem ((e_osmosishand_RawOp x36) ++ F_osmosishand_RawOp (p_b.drop (s35.1.toNat + 1)))) (.st none (.cb [] [] (.agg (e_api_Op x37)) (.call [] (some false) [] (.agg (e_api_Answer x38.1)) [(some (.cells (e_table_Table x38.2) false false))] (.en [1, 10, 11, 12, 13, 73, 74, 75] [none, none, none, none, none, none, none, none] [] [.slice none 8 0 0 true, .undef, .undef, .undef, .slice none 2 0 0 true, .slice none 8 0 0 true, .undef, .undef]))))) (.en [1, 10, 11, 13] [none, none, none, none] [] [.slice none 8 0 0 true, .undef, .undef, .slice none 2 0 0 true])) (rx_osmosislaw6_TableValue_L3 p_b a x18 x15 x26 r) = (((decide (s35.1 < (p_b.length : Int))) = true → (wP (.idxSlice 8 (.c (l_osmosishand_RawOp p_b)) (.c (.int .i64 s35.1))) = some (.elem ((e_osmosishand_RawOp x36) ++ F_osmosishand_RawOp (p_b.drop (s35.1.toNat + 1)))) ∧ (Spec C 51 [(.int .i64 x36.Kind), (.int .i64 x36.Key), (.int .i64 x36.Value), (.int .i64 x36.Old)] [] (.agg (e_api_Op x37)) [] ∧ (Spec C 52 [(.ptr (some (0, 0))), (.agg (e_api_Op x37))] [(some (.cells (e_table_Table s35.2) false false))] (.agg (e_api_Answer x38.1)) [(some (.cells (e_table_Table x38.2) false false))] ∧ (1 ≤ 1 ∧ lfe (rx_osmosislaw6_TableValue_L3 p_b a x18 x15 x26) (.inl ((IntKind.i64.wrap (s35.1 + 1)), x38.2)) r))))) ∧ ((decide (s35.1 < (p_b.length : Int))) = false → lfe (rx_osmosislaw6_TableValue_L3 p_b a x18 x15 x26) (.inr ()) r)) := fun C => by kernel_rfl
  refine runS_of (fun _ _ h => by cases h) WB16_3_ok (Nat.le_of_ble_eq_true rfl) ((e _).mpr ?_)
  unfold osmosislaw6_TableValue_L3_s at h
  refine ⟨fun hb => ?_, fun hb => ?_⟩
  · have h := cond_t hb h
    obtain ⟨q36, h⟩ := bget hx36 h
    refine ⟨wP_idx R_osmosishand_RawOp q36, ?_⟩
    obtain ⟨q37, h⟩ := bget hx37 h
    refine ⟨s_osmosishand_Op (d + 3) q37, ?_⟩
    obtain ⟨q38, h⟩ := bget hx38 h
    refine ⟨s_table_Table_Do_3 (d + 0) q38, ?_⟩
    refine ⟨by decide, ?_⟩
    exact lfe_of h
  · have h := cond_f hb h
    exact lfe_of h
theorem s_osmosislaw6_TableValue_L3 (d : Nat) {p_b : List osmosishand_RawOp} {a : List osmosishand_RawOp} {x18 : List api_Pair} {x15 : table_Table} {x26 : table_Table} {s35 : Int × table_Table} {r : Unit} (h : osmosislaw6_TableValue_L3 p_b a x18 x15 x26 s35 = some r) : RunX (bloop (bexec (wcalls atab (d + 6)) KK 119 WB16_3) [1, 10, 11, 12, 13, 73, 74, 75] KK) 0 (inL [1, 10, 11, 12, 13, 73, 74, 75] (st_osmosislaw6_TableValue_L3 p_b a x18 x15 x26 s35)) (fin_osmosislaw6_TableValue_L3 p_b a x18 x15 x26 r) :=
  loop_of (st := st_osmosislaw6_TableValue_L3 p_b a x18 x15 x26) (fin := fin_osmosislaw6_TableValue_L3 p_b a x18 x15 x26) (step := osmosislaw6_TableValue_L3_s p_b a x18 x15 x26) (fun e => by (intro h; cases h)) (fun s x h => b_osmosislaw6_TableValue_L3 d h) KK s35 r h

def st_osmosislaw6_TableValue_L4 (a : List osmosishand_RawOp) (x18 : List api_Pair) (x15 : table_Table) (x26 : table_Table) (s43 : Int × table_Table) : List AV × WH := ([(.ptr (some (0, 0))), (.ptr (some (1, 0))), (l_api_Pair x18), (.ptr (some (2, 0))), (l_osmosishand_RawOp a), (.int .i64 (a.length : Int)), (.int .i64 s43.1)], [(some (.cells (e_table_Table x15) false false)), (some (.cells (e_table_Table x26) false false)), (some (.cells (e_table_Table s43.2) false false))])
def fin_osmosislaw6_TableValue_L4 (a : List osmosishand_RawOp) (x18 : List api_Pair) (x15 : table_Table) (x26 : table_Table) : table_Table → Ex × Fast × WH := fun e => ((.exit 8), [(10, (.ptr (some (0, 0)))), (11, (.ptr (some (1, 0)))), (13, (l_api_Pair x18)), (20, (.ptr (some (2, 0))))], [(some (.cells (e_table_Table x15) false false)), (some (.cells (e_table_Table x26) false false)), (some (.cells (e_table_Table e) false false))])
abbrev rx_osmosislaw6_TableValue_L4 (a : List osmosishand_RawOp) (x18 : List api_Pair) (x15 : table_Table) (x26 : table_Table) := roundX [10, 11, 13, 20, 91, 92, 93] (st_osmosislaw6_TableValue_L4 a x18 x15 x26) (fin_osmosislaw6_TableValue_L4 a x18 x15 x26)
def osmosislaw6_TableValue_L4_s (a : List osmosishand_RawOp) (x18 : List api_Pair) (x15 : table_Table) (x26 : table_Table) (s43 : Int × table_Table) : Option ((Int × table_Table) ⊕ (table_Table)) :=
  cond (decide (s43.1 < (a.length : Int))) ((getI a s43.1).bind fun (x44 : osmosishand_RawOp) => (osmosishand_Op x44.Kind x44.Key x44.Value x44.Old).bind fun (x45 : api_Op) => (table_Table_Do_3 x45 s43.2).bind fun (x46 : api_Answer × table_Table) => some (.inl ((IntKind.i64.wrap (s43.1 + 1)), x46.2))) (some (.inr s43.2))
def osmosislaw6_TableValue_L4 (a : List osmosishand_RawOp) (x18 : List api_Pair) (x15 : table_Table) (x26 : table_Table) (s43 : Int × table_Table) : Option (table_Table) := loopX (osmosislaw6_TableValue_L4_s a x18 x15 x26) KK s43
theorem b_osmosislaw6_TableValue_L4 (d : Nat) {a : List osmosishand_RawOp} {x18 : List api_Pair} {x15 : table_Table} {x26 : table_Table} {s43 : Int × table_Table} {r : (Int × table_Table) ⊕ (table_Table)} (h : osmosislaw6_TableValue_L4_s a x18 x15 x26 s43 = some r) : RunX (bexec (wcalls atab (d + 6)) KK 119 WB16_4) 0 (inL [10, 11, 13, 20, 91, 92, 93] (st_osmosislaw6_TableValue_L4 a x18 x15 x26 s43)) (rx_osmosislaw6_TableValue_L4 a x18 x15 x26 r) := by
  obtain ⟨x44, hx44⟩ := wx (getI a s43.1)
  obtain ⟨x45, hx45⟩ := wx (osmosishand_Op x44.Kind x44.Key x44.Value x44.Old)
  obtain ⟨x46, hx46⟩ := wx (table_Table_Do_3 x45 s43.2)
  have e : ∀ C : ACalls, wCode C (fun _ => none) KK 119 0 WB16_4 (inL [10, 11, 13, 20, 91, 92, 93] (st_osmosislaw6_TableValue_L4 a x18 x15 x26 s43)).1 (inL [10, 11, 13, 20, 91, 92, 93] (st_osmosislaw6_TableValue_L4 a x18 x15 x26 s43)).2 (.br 94 (.v 95 (.elem ((e_osmosishand_RawOp x44) ++ F_osmosishand_RawOp (a.drop (s43.1.toNat + 1)))) (.st none (.cb [] [] (.agg (e_api_Op x45)) (.call [] (some false) [] (.agg (e_api_Answer x46.1)) [(some (.cells (e_table_Table x46.2) false false))] (.en [10, 11, 13, 20, 91, 92, 93] [none, none, none, none, none, none, none] [] [.undef, .undef, .slice none 2 0 0 true, .undef, .slice none 8 0 0 true, .undef, .undef]))))) (.en [10, 11, 13, 20] [none, none, none, none] [] [.undef, .undef, .slice none 2 0 0 true, .undef])) (rx_osmosislaw6_TableValue_L4 a x18 x15 x26 r) = (((decide (s43.1 < (a.length : Int))) = true → (wP (.idxSlice 8 (.c (l_osmosishand_RawOp a)) (.c (.int .i64 s43.1))) = some (.elem ((e_osmosishand_RawOp x44) ++ F_osmosishand_RawOp (a.drop (s43.1.toNat + 1)))) ∧ (Spec C 51 [(.int .i64 x44.Kind), (.int .i64 x44.Key), (.int .i64 x44.Value), (.int .i64 x44.Old)] [] (.agg (e_api_Op x45)) [] ∧ (Spec C 52 [(.ptr (some (0, 0))), (.agg (e_api_Op x45))] [(some (.cells (e_table_Table s43.2) false false))] (.agg (e_api_Answer x46.1)) [(some (.cells (e_table_Table x46.2) false false))] ∧ (1 ≤ 1 ∧ lfe (rx_osmosislaw6_TableValue_L4 a x18 x15 x26) (.inl ((IntKind.i64.wrap (s43.1 + 1)), x46.2)) r))))) ∧ ((decide (s43.1 < (a.length : Int))) = false → lfe (rx_osmosislaw6_TableValue_L4 a x18 x15 x26) (.inr s43.2) r)) := fun C => by kernel_rfl
  refine runS_of (fun _ _ h => by cases h) WB16_4_ok (Nat.le_of_ble_eq_true rfl) ((e _).mpr ?_)
  unfold osmosislaw6_TableValue_L4_s at h
  refine ⟨fun hb => ?_, fun hb => ?_⟩
  · have h := cond_t hb h
    obtain ⟨q44, h⟩ := bget hx44 h
    refine ⟨wP_idx R_osmosishand_RawOp q44, ?_⟩
    obtain ⟨q45, h⟩ := bget hx45 h
    refine ⟨s_osmosishand_Op (d + 3) q45, ?_⟩
    obtain ⟨q46, h⟩ := bget hx46 h
    refine ⟨s_table_Table_Do_3 (d + 0) q46, ?_⟩
    refine ⟨by decide, ?_⟩
    exact lfe_of h
  · have h := cond_f hb h
    exact lfe_of h
theorem s_osmosislaw6_TableValue_L4 (d : Nat) {a : List osmosishand_RawOp} {x18 : List api_Pair} {x15 : table_Table} {x26 : table_Table} {s43 : Int × table_Table} {r : table_Table} (h : osmosislaw6_TableValue_L4 a x18 x15 x26 s43 = some r) : RunX (bloop (bexec (wcalls atab (d + 6)) KK 119 WB16_4) [10, 11, 13, 20, 91, 92, 93] KK) 0 (inL [10, 11, 13, 20, 91, 92, 93] (st_osmosislaw6_TableValue_L4 a x18 x15 x26 s43)) (fin_osmosislaw6_TableValue_L4 a x18 x15 x26 r) :=
  loop_of (st := st_osmosislaw6_TableValue_L4 a x18 x15 x26) (fin := fin_osmosislaw6_TableValue_L4 a x18 x15 x26) (step := osmosislaw6_TableValue_L4_s a x18 x15 x26) (fun e => by (intro h; cases h)) (fun s x h => b_osmosislaw6_TableValue_L4 d h) KK s43 r h

def osmosislaw6_TableValue (first : List Int) (a : List osmosishand_RawOp) (p_b : List osmosishand_RawOp) : Option (Bool) :=
  (osmosislaw6_TableValue_L0 first a p_b (0, [])).bind fun (x14 : (List api_Pair)) => (table_Of x14).bind fun (x15 : table_Table) => (table_Table_Pairs x15).bind fun (x16 : List api_Pair) => (table_Of x16).bind fun (x17 : table_Table) => (table_Table_Pairs x15).bind fun (x18 : List api_Pair) => (osmosislaw6_TableValue_L1 a p_b x18 x15 x17 (0, x15)).bind fun (x26 : table_Table) => (table_Table_Pairs_2 x15).bind fun (x27 : List api_Pair) => (osmosislaw6_TableValue_L2 x27 a p_b x18 x15 x26 x17 (0, x27)).bind fun (x31 : Unit) => (osmosislaw6_TableValue_L3 p_b a x18 x15 x26 (0, x17)).bind fun (x39 : Unit) => (osmosislaw6_TableValue_L4 a x18 x15 x26 (0, x15)).bind fun (x47 : table_Table) => (osmosislaw6_known).bind fun (x48 : Bool) => cond x48 ((table_Table_Pairs x15).bind fun (x49 : List api_Pair) => (osmosislaw6_same x49 x18).bind fun (x50 : Bool) => cond x50 ((table_Table_Pairs x47).bind fun (x51 : List api_Pair) => (table_Table_Pairs x26).bind fun (x52 : List api_Pair) => (osmosislaw6_same x51 x52).bind fun (x53 : Bool) => some x53) (some false)) (some false)
def out_osmosislaw6_TableValue (first : List Int) (a : List osmosishand_RawOp) (p_b : List osmosishand_RawOp) (r : Bool) : AV × WH := ((.bool r), [])

theorem s_osmosislaw6_TableValue (d : Nat) {first : List Int} {a : List osmosishand_RawOp} {p_b : List osmosishand_RawOp} {r : Bool} (h : osmosislaw6_TableValue first a p_b = some r) : Spec (wcalls atab (d + 8)) 16 [(l_I first), (l_osmosishand_RawOp a), (l_osmosishand_RawOp p_b)] [] (out_osmosislaw6_TableValue first a p_b r).1 (out_osmosislaw6_TableValue first a p_b r).2 := by
  obtain ⟨x14, hx14⟩ := wx (osmosislaw6_TableValue_L0 first a p_b (0, []))
  obtain ⟨x15, hx15⟩ := wx (table_Of x14)
  obtain ⟨x16, hx16⟩ := wx (table_Table_Pairs x15)
  obtain ⟨x17, hx17⟩ := wx (table_Of x16)
  obtain ⟨x18, hx18⟩ := wx (table_Table_Pairs x15)
  obtain ⟨x26, hx26⟩ := wx (osmosislaw6_TableValue_L1 a p_b x18 x15 x17 (0, x15))
  obtain ⟨x27, hx27⟩ := wx (table_Table_Pairs_2 x15)
  obtain ⟨x31, hx31⟩ := wx (osmosislaw6_TableValue_L2 x27 a p_b x18 x15 x26 x17 (0, x27))
  obtain ⟨x39, hx39⟩ := wx (osmosislaw6_TableValue_L3 p_b a x18 x15 x26 (0, x17))
  obtain ⟨x47, hx47⟩ := wx (osmosislaw6_TableValue_L4 a x18 x15 x26 (0, x15))
  obtain ⟨x48, hx48⟩ := wx (osmosislaw6_known)
  obtain ⟨x49, hx49⟩ := wx (table_Table_Pairs x15)
  obtain ⟨x50, hx50⟩ := wx (osmosislaw6_same x49 x18)
  obtain ⟨x51, hx51⟩ := wx (table_Table_Pairs x47)
  obtain ⟨x52, hx52⟩ := wx (table_Table_Pairs x26)
  obtain ⟨x53, hx53⟩ := wx (osmosislaw6_same x51 x52)
  have e : ∀ C : ACalls, wBody C (fun _ => none) KK WF16 [(l_I first), (l_osmosishand_RawOp a), (l_osmosishand_RawOp p_b)] [] (.z 7 [.slice none 2 0 0 true] (.lp [none, none, (some true), none, none, none] [] [.slice none 8 0 0 true, .slice none 8 0 0 true, .slice none 2 0 0 true, .undef, .undef, .undef] (.exit 0) [(1, (l_osmosishand_RawOp a)), (2, (l_osmosishand_RawOp p_b)), (7, (.acc 0 0 2 x14.length true))] [(some (.cells (F_api_Pair x14) false true))] (.call [] (some false) [.slice none 2 0 0 true] (.agg (e_table_Table x15)) [] (.z 10 [.slice none 2 0 0 true] (.st none (.z 11 [.slice none 2 0 0 true] (.st none (.call [] (some false) [] (l_api_Pair x16) [(some (.cells (e_table_Table x15) false false))] (.call [] (some false) [.slice none 2 0 0 true] (.agg (e_table_Table x17)) [] (.z 12 [.slice none 2 0 0 true] (.st none (.call [] (some false) [] (l_api_Pair x18) [(some (.cells (e_table_Table x15) false false))] (.lp [none, none, none, none, none, none, none, none, none] [] [.slice none 8 0 0 true, .slice none 8 0 0 true, .undef, .undef, .undef, .slice none 2 0 0 true, .slice none 8 0 0 true, .undef, .undef] (.exit 2) [(1, (l_osmosishand_RawOp a)), (2, (l_osmosishand_RawOp p_b)), (10, (.ptr (some (0, 0)))), (11, (.ptr (some (1, 0)))), (12, (.ptr (some (2, 0)))), (13, (l_api_Pair x18))] [(some (.cells (e_table_Table x15) false false)), (some (.cells (e_table_Table x26) false false)), (some (.cells (e_table_Table x17) false false))] (.call [] (some false) [] (.acc 1 0 2 x27.length true) [(some (.cells (e_table_Table x15) false false)), (some (.cells (F_api_Pair x27) false true))] (.lp [none, none, none, none, none, none, none, none, none] [] [.slice none 8 0 0 true, .slice none 8 0 0 true, .undef, .undef, .undef, .slice none 2 0 0 true, .slice none 2 0 0 true, .undef, .undef] (.exit 4) [(1, (l_osmosishand_RawOp a)), (2, (l_osmosishand_RawOp p_b)), (10, (.ptr (some (0, 0)))), (11, (.ptr (some (1, 0)))), (12, (.ptr (some (2, 0)))), (13, (l_api_Pair x18))] [(some (.cells (e_table_Table x15) false false)), (some (.cells (e_table_Table x26) false false)), (some (.cells (e_table_Table x17) false false))] (.lp [none, none, none, none, none, none, none, none] [] [.slice none 8 0 0 true, .undef, .undef, .undef, .slice none 2 0 0 true, .slice none 8 0 0 true, .undef, .undef] (.exit 6) [(1, (l_osmosishand_RawOp a)), (10, (.ptr (some (0, 0)))), (11, (.ptr (some (1, 0)))), (13, (l_api_Pair x18))] [(some (.cells (e_table_Table x15) false false)), (some (.cells (e_table_Table x26) false false))] (.z 20 [.slice none 2 0 0 true] (.st none (.lp [none, none, none, none, none, none, none] [] [.undef, .undef, .slice none 2 0 0 true, .undef, .slice none 8 0 0 true, .undef, .undef] (.exit 8) [(10, (.ptr (some (0, 0)))), (11, (.ptr (some (1, 0)))), (13, (l_api_Pair x18)), (20, (.ptr (some (2, 0))))] [(some (.cells (e_table_Table x15) false false)), (some (.cells (e_table_Table x26) false false)), (some (.cells (e_table_Table x47) false false))] (.cb [] [] (.bool x48) (.br 109 (.call [] (some false) [] (l_api_Pair x49) [(some (.cells (e_table_Table x15) false false))] (.cb [] [.slice none 2 0 0 true, .slice none 2 0 0 true] (.bool x50) (.br 114 (.call [] (some false) [] (l_api_Pair x51) [(some (.cells (e_table_Table x47) false false))] (.call [] (some false) [] (l_api_Pair x52) [(some (.cells (e_table_Table x26) false false))] (.cb [] [.slice none 2 0 0 true, .slice none 2 0 0 true] (.bool x53) (.fin (some false) [] none)))) (.fin (some false) [] none)))) (.fin (some false) [] none)))))))))))))))))))))) (out_osmosislaw6_TableValue first a p_b r).1 (out_osmosislaw6_TableValue first a p_b r).2 = (3 = 3 ∧ 3 ≤ 119 ∧ (RunS (bloop (bexec C KK 119 WB16_0) [1, 2, 7, 23, 24, 25] KK) 0 [(1, (l_osmosishand_RawOp a)), (2, (l_osmosishand_RawOp p_b)), (7, (.acc 0 0 2 0 true)), (23, (l_I first)), (24, (.int .i64 (first.length : Int))), (25, (.int .i64 0))] [(some (.cells (F_api_Pair []) false true))] (.exit 0) [(1, (l_osmosishand_RawOp a)), (2, (l_osmosishand_RawOp p_b)), (7, (.acc 0 0 2 x14.length true))] [(some (.cells (F_api_Pair x14) false true))] ∧ (Spec C 56 [(l_api_Pair x14)] [] (.agg (e_table_Table x15)) [] ∧ (0 ≤ 0 ∧ (Spec C 54 [(.ptr (some (0, 0)))] [(some (.cells (e_table_Table x15) false false))] (l_api_Pair x16) [(some (.cells (e_table_Table x15) false false))] ∧ (1 ≤ 1 ∧ (Spec C 56 [(l_api_Pair x16)] [] (.agg (e_table_Table x17)) [] ∧ (0 ≤ 0 ∧ (Spec C 54 [(.ptr (some (0, 0)))] [(some (.cells (e_table_Table x15) false false))] (l_api_Pair x18) [(some (.cells (e_table_Table x15) false false))] ∧ (1 ≤ 1 ∧ (RunS (bloop (bexec C KK 119 WB16_1) [1, 2, 10, 11, 12, 13, 45, 46, 47] KK) 0 [(1, (l_osmosishand_RawOp a)), (2, (l_osmosishand_RawOp p_b)), (10, (.ptr (some (0, 0)))), (11, (.ptr (some (1, 0)))), (12, (.ptr (some (2, 0)))), (13, (l_api_Pair x18)), (45, (l_osmosishand_RawOp a)), (46, (.int .i64 (a.length : Int))), (47, (.int .i64 0))] [(some (.cells (e_table_Table x15) false false)), (some (.cells (e_table_Table x15) false false)), (some (.cells (e_table_Table x17) false false))] (.exit 2) [(1, (l_osmosishand_RawOp a)), (2, (l_osmosishand_RawOp p_b)), (10, (.ptr (some (0, 0)))), (11, (.ptr (some (1, 0)))), (12, (.ptr (some (2, 0)))), (13, (l_api_Pair x18))] [(some (.cells (e_table_Table x15) false false)), (some (.cells (e_table_Table x26) false false)), (some (.cells (e_table_Table x17) false false))] ∧ (Spec C 54 [(.ptr (some (0, 0)))] [(some (.cells (e_table_Table x15) false false))] (.acc 1 0 2 x27.length true) [(some (.cells (e_table_Table x15) false false)), (some (.cells (F_api_Pair x27) false true))] ∧ (1 ≤ 2 ∧ (RunS (bloop (bexec C KK 119 WB16_2) [1, 2, 10, 11, 12, 13, 16, 64, 65] KK) 0 [(1, (l_osmosishand_RawOp a)), (2, (l_osmosishand_RawOp p_b)), (10, (.ptr (some (0, 0)))), (11, (.ptr (some (1, 0)))), (12, (.ptr (some (2, 0)))), (13, (l_api_Pair x18)), (16, (.acc 3 0 2 x27.length true)), (64, (.int .i64 (x27.length : Int))), (65, (.int .i64 0))] [(some (.cells (e_table_Table x15) false false)), (some (.cells (e_table_Table x26) false false)), (some (.cells (e_table_Table x17) false false)), (some (.cells (F_api_Pair x27) false true))] (.exit 4) [(1, (l_osmosishand_RawOp a)), (2, (l_osmosishand_RawOp p_b)), (10, (.ptr (some (0, 0)))), (11, (.ptr (some (1, 0)))), (12, (.ptr (some (2, 0)))), (13, (l_api_Pair x18))] [(some (.cells (e_table_Table x15) false false)), (some (.cells (e_table_Table x26) false false)), (some (.cells (e_table_Table x17) false false))] ∧ (RunS (bloop (bexec C KK 119 WB16_3) [1, 10, 11, 12, 13, 73, 74, 75] KK) 0 [(1, (l_osmosishand_RawOp a)), (10, (.ptr (some (0, 0)))), (11, (.ptr (some (1, 0)))), (12, (.ptr (some (2, 0)))), (13, (l_api_Pair x18)), (73, (l_osmosishand_RawOp p_b)), (74, (.int .i64 (p_b.length : Int))), (75, (.int .i64 0))] [(some (.cells (e_table_Table x15) false false)), (some (.cells (e_table_Table x26) false false)), (some (.cells (e_table_Table x17) false false))] (.exit 6) [(1, (l_osmosishand_RawOp a)), (10, (.ptr (some (0, 0)))), (11, (.ptr (some (1, 0)))), (13, (l_api_Pair x18))] [(some (.cells (e_table_Table x15) false false)), (some (.cells (e_table_Table x26) false false))] ∧ (RunS (bloop (bexec C KK 119 WB16_4) [10, 11, 13, 20, 91, 92, 93] KK) 0 [(10, (.ptr (some (0, 0)))), (11, (.ptr (some (1, 0)))), (13, (l_api_Pair x18)), (20, (.ptr (some (2, 0)))), (91, (l_osmosishand_RawOp a)), (92, (.int .i64 (a.length : Int))), (93, (.int .i64 0))] [(some (.cells (e_table_Table x15) false false)), (some (.cells (e_table_Table x26) false false)), (some (.cells (e_table_Table x15) false false))] (.exit 8) [(10, (.ptr (some (0, 0)))), (11, (.ptr (some (1, 0)))), (13, (l_api_Pair x18)), (20, (.ptr (some (2, 0))))] [(some (.cells (e_table_Table x15) false false)), (some (.cells (e_table_Table x26) false false)), (some (.cells (e_table_Table x47) false false))] ∧ (Spec C 55 [] [] (.bool x48) [] ∧ ((x48 = true → (Spec C 54 [(.ptr (some (0, 0)))] [(some (.cells (e_table_Table x15) false false))] (l_api_Pair x49) [(some (.cells (e_table_Table x15) false false))] ∧ (1 ≤ 1 ∧ (Spec C 64 [(l_api_Pair x49), (l_api_Pair x18)] [] (.bool x50) [] ∧ ((x50 = true → (Spec C 54 [(.ptr (some (0, 0)))] [(some (.cells (e_table_Table x47) false false))] (l_api_Pair x51) [(some (.cells (e_table_Table x47) false false))] ∧ (1 ≤ 1 ∧ (Spec C 54 [(.ptr (some (0, 0)))] [(some (.cells (e_table_Table x26) false false))] (l_api_Pair x52) [(some (.cells (e_table_Table x26) false false))] ∧ (1 ≤ 1 ∧ (Spec C 64 [(l_api_Pair x51), (l_api_Pair x52)] [] (.bool x53) [] ∧ lff (out_osmosislaw6_TableValue first a p_b) x53 r)))))) ∧ (x50 = false → lff (out_osmosislaw6_TableValue first a p_b) false r)))))) ∧ (x48 = false → lff (out_osmosislaw6_TableValue first a p_b) false r))))))))))))))))))) := fun C => by kernel_rfl
  refine spec_of (fun _ _ h => by cases h) rfl atab_16 WF16_ok ((e _).mpr ⟨rfl, by decide, ?_⟩)
  unfold osmosislaw6_TableValue at h
  obtain ⟨q14, h⟩ := bget hx14 h
  refine ⟨s_osmosislaw6_TableValue_L0 (d + 5) q14, ?_⟩
  obtain ⟨q15, h⟩ := bget hx15 h
  refine ⟨s_table_Of (d + 0) q15, ?_⟩
  refine ⟨by decide, ?_⟩
  obtain ⟨q16, h⟩ := bget hx16 h
  refine ⟨s_table_Table_Pairs (d + 5) q16, ?_⟩
  refine ⟨by decide, ?_⟩
  obtain ⟨q17, h⟩ := bget hx17 h
  refine ⟨s_table_Of (d + 0) q17, ?_⟩
  refine ⟨by decide, ?_⟩
  obtain ⟨q18, h⟩ := bget hx18 h
  refine ⟨s_table_Table_Pairs (d + 5) q18, ?_⟩
  refine ⟨by decide, ?_⟩
  obtain ⟨q26, h⟩ := bget hx26 h
  refine ⟨s_osmosislaw6_TableValue_L1 (d + 1) q26, ?_⟩
  obtain ⟨q27, h⟩ := bget hx27 h
  refine ⟨s_table_Table_Pairs_2 (d + 5) q27, ?_⟩
  refine ⟨by decide, ?_⟩
  obtain ⟨q31, h⟩ := bget hx31 h
  refine ⟨s_osmosislaw6_TableValue_L2 (d + 7) q31, ?_⟩
  obtain ⟨q39, h⟩ := bget hx39 h
  refine ⟨s_osmosislaw6_TableValue_L3 (d + 1) q39, ?_⟩
  obtain ⟨q47, h⟩ := bget hx47 h
  refine ⟨s_osmosislaw6_TableValue_L4 (d + 1) q47, ?_⟩
  obtain ⟨q48, h⟩ := bget hx48 h
  refine ⟨s_osmosislaw6_known (d + 0) q48, ?_⟩
  refine ⟨fun hb => ?_, fun hb => ?_⟩
  · have h := cond_t hb h
    obtain ⟨q49, h⟩ := bget hx49 h
    refine ⟨s_table_Table_Pairs (d + 5) q49, ?_⟩
    refine ⟨by decide, ?_⟩
    obtain ⟨q50, h⟩ := bget hx50 h
    refine ⟨s_osmosislaw6_same (d + 6) q50, ?_⟩
    refine ⟨fun hb => ?_, fun hb => ?_⟩
    · have h := cond_t hb h
      obtain ⟨q51, h⟩ := bget hx51 h
      refine ⟨s_table_Table_Pairs (d + 5) q51, ?_⟩
      refine ⟨by decide, ?_⟩
      obtain ⟨q52, h⟩ := bget hx52 h
      refine ⟨s_table_Table_Pairs (d + 5) q52, ?_⟩
      refine ⟨by decide, ?_⟩
      obtain ⟨q53, h⟩ := bget hx53 h
      refine ⟨s_osmosislaw6_same (d + 6) q53, ?_⟩
      exact lff_of h
    · have h := cond_f hb h
      exact lff_of h
  · have h := cond_f hb h
    exact lff_of h

end Go.Proofs.Ytachollgbplikaa
