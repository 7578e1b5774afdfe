/- Functions as Lean functions, part 2. -/
import Derived.Test.YtachollgbplikaaXt
import Derived.Test.YtachollgbplikaaXs
import Derived.Test.YtachollgbplikaaY1
set_option linter.all false
set_option maxRecDepth 100000
namespace Go.Proofs.Ytachollgbplikaa
/- (*osmosis/osmosisref1.Table).find -/
def st_osmosisref1_Table_find_2_L0 (p_b1 : List api_Pair) (key : List UInt8) (s3 : Int) : List AV × WH := ([(.ptr (some (0, 0))), (.str key), (.int .i64 s3)], [(some (.cells [(.acc 1 0 2 p_b1.length true)] false false)), (some (.cells (F_api_Pair p_b1) false true))])
def fin_osmosisref1_Table_find_2_L0 (p_b1 : List api_Pair) (key : List UInt8) : (Int × Bool) ⊕ Unit → Ex × Fast × WH := fun
  | .inl e => (.ret, [(4, (.int .i64 e.1)), (5, (.bool e.2))], [(some (.cells [(.acc 1 0 2 p_b1.length true)] false false)), (some (.cells (F_api_Pair p_b1) false true))])
  | .inr e => ((.exit 0), [(0, (.ptr (some (0, 0))))], [(some (.cells [(.acc 1 0 2 p_b1.length true)] false false)), (some (.cells (F_api_Pair p_b1) false true))])
abbrev rx_osmosisref1_Table_find_2_L0 (p_b1 : List api_Pair) (key : List UInt8) := roundX [0, 1, 6] (st_osmosisref1_Table_find_2_L0 p_b1 key) (fin_osmosisref1_Table_find_2_L0 p_b1 key)
def osmosisref1_Table_find_2_L0_s (p_b1 : List api_Pair) (key : List UInt8) (s3 : Int) : Option ((Int) ⊕ ((Int × Bool) ⊕ Unit)) :=
  cond (decide (s3 < (p_b1.length : Int))) ((getI p_b1 s3).bind fun (x4 : api_Pair) => cond (!(Op.bytesLess x4.Key key)) ((getI p_b1 s3).bind fun (x5 : api_Pair) => some (.inr (.inl (s3, (x5.Key == key))))) (some (.inl (IntKind.i64.wrap (s3 + 1))))) (some (.inr (.inr ())))
def osmosisref1_Table_find_2_L0 (p_b1 : List api_Pair) (key : List UInt8) (s3 : Int) : Option ((Int × Bool) ⊕ Unit) := loopX (osmosisref1_Table_find_2_L0_s p_b1 key) KK s3
theorem b_osmosisref1_Table_find_2_L0 (d : Nat) {p_b1 : List api_Pair} {key : List UInt8} {s3 : Int} {r : (Int) ⊕ ((Int × Bool) ⊕ Unit)} (h : osmosisref1_Table_find_2_L0_s p_b1 key s3 = some r) : RunX (bexec (wcalls atab (d + 0)) KK 42 WB104_0) 2 (inL [0, 1, 6] (st_osmosisref1_Table_find_2_L0 p_b1 key s3)) (rx_osmosisref1_Table_find_2_L0 p_b1 key r) := by
  obtain ⟨x4, hx4⟩ := wx (getI p_b1 s3)
  obtain ⟨x5, hx5⟩ := wx (getI p_b1 s3)
  have e : ∀ C : ACalls, wCode C (fun _ => none) KK 42 2 WB104_0 (inL [0, 1, 6] (st_osmosisref1_Table_find_2_L0 p_b1 key s3)).1 (inL [0, 1, 6] (st_osmosisref1_Table_find_2_L0 p_b1 key s3)).2 (.br 13 (.v 21 (.ptr (some (1, 0 + s3.toNat * 2))) (.v 23 (.str x4.Key) (.br 25 (.v 32 (.ptr (some (1, 0 + s3.toNat * 2))) (.v 34 (.str x5.Key) (.en [4, 5] [none, none] [] []))) (.en [0, 1, 6] [none, none, none] [] [])))) (.en [0] [none] [] [])) (rx_osmosisref1_Table_find_2_L0 p_b1 key r) = (((decide (s3 < (p_b1.length : Int))) = true → (wP (.idxSlice 2 (.c (.acc 1 0 2 p_b1.length true)) (.c (.int .i64 s3))) = some (.ptr (some (1, 0 + s3.toNat * 2))) ∧ (cPart false (0 + s3.toNat * 2) 1 (F_api_Pair p_b1) = some (.str x4.Key) ∧ (((!(Op.bytesLess x4.Key key)) = true → (wP (.idxSlice 2 (.c (.acc 1 0 2 p_b1.length true)) (.c (.int .i64 s3))) = some (.ptr (some (1, 0 + s3.toNat * 2))) ∧ (cPart false (0 + s3.toNat * 2) 1 (F_api_Pair p_b1) = some (.str x5.Key) ∧ lfe (rx_osmosisref1_Table_find_2_L0 p_b1 key) (.inr (.inl (s3, (x5.Key == key)))) r))) ∧ ((!(Op.bytesLess x4.Key key)) = false → lfe (rx_osmosisref1_Table_find_2_L0 p_b1 key) (.inl (IntKind.i64.wrap (s3 + 1))) r))))) ∧ ((decide (s3 < (p_b1.length : Int))) = false → lfe (rx_osmosisref1_Table_find_2_L0 p_b1 key) (.inr (.inr ())) r)) := fun C => by kernel_rfl
  refine runS_of (fun _ _ h => by cases h) WB104_0_ok (Nat.le_of_ble_eq_true rfl) ((e _).mpr ?_)
  unfold osmosisref1_Table_find_2_L0_s at h
  refine ⟨fun hb => ?_, fun hb => ?_⟩
  · have h := cond_t hb h
    obtain ⟨q4, h⟩ := bget hx4 h
    refine ⟨wP_idxA R_api_Pair q4, ?_⟩
    refine ⟨cP_row (o := 0) R_api_Pair q4 rfl, ?_⟩
    refine ⟨fun hb => ?_, fun hb => ?_⟩
    · have h := cond_t hb h
      obtain ⟨q5, h⟩ := bget hx5 h
      refine ⟨wP_idxA R_api_Pair q5, ?_⟩
      refine ⟨cP_row (o := 0) R_api_Pair q5 rfl, ?_⟩
      exact lfe_of h
    · have h := cond_f hb h
      exact lfe_of h
  · have h := cond_f hb h
    exact lfe_of h
theorem s_osmosisref1_Table_find_2_L0 (d : Nat) {p_b1 : List api_Pair} {key : List UInt8} {s3 : Int} {r : (Int × Bool) ⊕ Unit} (h : osmosisref1_Table_find_2_L0 p_b1 key s3 = some r) : RunX (bloop (bexec (wcalls atab (d + 0)) KK 42 WB104_0) [0, 1, 6] KK) 2 (inL [0, 1, 6] (st_osmosisref1_Table_find_2_L0 p_b1 key s3)) (fin_osmosisref1_Table_find_2_L0 p_b1 key r) :=
  loop_of (st := st_osmosisref1_Table_find_2_L0 p_b1 key) (fin := fin_osmosisref1_Table_find_2_L0 p_b1 key) (step := osmosisref1_Table_find_2_L0_s p_b1 key) (fun e => by rcases e with e | e <;> (intro h; cases h)) (fun s x h => b_osmosisref1_Table_find_2_L0 d h) KK s3 r h

def osmosisref1_Table_find_2 (key : List UInt8) (p_b1 : List api_Pair) : Option (Int × Bool) :=
  (osmosisref1_Table_find_2_L0 p_b1 key 0).bind fun (x6 : (Int × Bool) ⊕ Unit) => cond (isL x6) (some ((getL x6).1, (getL x6).2)) (some ((p_b1.length : Int), false))
def out_osmosisref1_Table_find_2 (key : List UInt8) (p_b1 : List api_Pair) (r : Int × Bool) : AV × WH := ((.tuple [(.int .i64 r.1), (.bool r.2)]), [(some (.cells [(.acc 1 0 2 p_b1.length true)] false false)), (some (.cells (F_api_Pair p_b1) false true))])

theorem s_osmosisref1_Table_find_2 (d : Nat) {key : List UInt8} {p_b1 : List api_Pair} {r : Int × Bool} (h : osmosisref1_Table_find_2 key p_b1 = some r) : Spec (wcalls atab (d + 1)) 104 [(.ptr (some (0, 0))), (.str key)] [(some (.cells [(.acc 1 0 2 p_b1.length true)] false false)), (some (.cells (F_api_Pair p_b1) false true))] (out_osmosisref1_Table_find_2 key p_b1 r).1 (out_osmosisref1_Table_find_2 key p_b1 r).2 := by
  obtain ⟨x6, hx6⟩ := wx (osmosisref1_Table_find_2_L0 p_b1 key 0)
  have e : ∀ C : ACalls, wBody C (fun _ => none) KK WF104 [(.ptr (some (0, 0))), (.str key)] [(some (.cells [(.acc 1 0 2 p_b1.length true)] false false)), (some (.cells (F_api_Pair p_b1) false true))] (.ite (isL x6) (.lp [none, none, none] [] [] .ret [(4, (.int .i64 ((getL x6).1))), (5, (.bool ((getL x6).2)))] [(some (.cells [(.acc 1 0 2 p_b1.length true)] false false)), (some (.cells (F_api_Pair p_b1) false true))] (.fin (some false) [] none)) (.lp [none, none, none] [] [] (.exit 0) [(0, (.ptr (some (0, 0))))] [(some (.cells [(.acc 1 0 2 p_b1.length true)] false false)), (some (.cells (F_api_Pair p_b1) false true))] (.fin (some false) [] none))) (out_osmosisref1_Table_find_2 key p_b1 r).1 (out_osmosisref1_Table_find_2 key p_b1 r).2 = (2 = 2 ∧ 2 ≤ 42 ∧ (((isL x6) = true → (RunS (bloop (bexec C KK 42 WB104_0) [0, 1, 6] KK) 2 [(0, (.ptr (some (0, 0)))), (1, (.str key)), (6, (.int .i64 0))] [(some (.cells [(.acc 1 0 2 p_b1.length true)] false false)), (some (.cells (F_api_Pair p_b1) false true))] .ret [(4, (.int .i64 ((getL x6).1))), (5, (.bool ((getL x6).2)))] [(some (.cells [(.acc 1 0 2 p_b1.length true)] false false)), (some (.cells (F_api_Pair p_b1) false true))] ∧ lff (out_osmosisref1_Table_find_2 key p_b1) ((getL x6).1, (getL x6).2) r)) ∧ ((isL x6) = false → (RunS (bloop (bexec C KK 42 WB104_0) [0, 1, 6] KK) 2 [(0, (.ptr (some (0, 0)))), (1, (.str key)), (6, (.int .i64 0))] [(some (.cells [(.acc 1 0 2 p_b1.length true)] false false)), (some (.cells (F_api_Pair p_b1) false true))] (.exit 0) [(0, (.ptr (some (0, 0))))] [(some (.cells [(.acc 1 0 2 p_b1.length true)] false false)), (some (.cells (F_api_Pair p_b1) false true))] ∧ lff (out_osmosisref1_Table_find_2 key p_b1) ((p_b1.length : Int), false) r)))) := fun C => by kernel_rfl
  refine spec_of (fun _ _ h => by cases h) rfl atab_104 WF104_ok ((e _).mpr ⟨rfl, by decide, ?_⟩)
  unfold osmosisref1_Table_find_2 at h
  obtain ⟨q6, h⟩ := bget hx6 h
  refine ⟨fun hb7 => ?_, fun hb7 => ?_⟩
  · have h := cond_t hb7 h
    refine ⟨by have h := s_osmosisref1_Table_find_2_L0 (d + 0) q6; rw [isL_t hb7] at h; exact h, ?_⟩
    exact lff_of h
  · have h := cond_f hb7 h
    refine ⟨by have h := s_osmosisref1_Table_find_2_L0 (d + 0) q6; rw [isL_f hb7] at h; exact h, ?_⟩
    exact lff_of h

/- (*osmosis/osmosisref1.Table).Do -/
abbrev in_osmosisref1_Table_Do_2_J0 (x2 : Int × Bool) (p_b1 : List api_Pair) (o : api_Op) : Fast × WH := ([(0, (.ptr (some (0, 0)))), (3, (.ptr (some (2, 0)))), (4, (.ptr (some (3, 0)))), (5, (.int .i64 x2.1)), (6, (.bool x2.2))], [(some (.cells [(.acc 1 0 2 p_b1.length true)] false false)), (some (.cells (F_api_Pair p_b1) false true)), (some (.cells (e_api_Op o) false false)), (some (.cells (e_api_Answer (⟨0, ([] : List UInt8)⟩ : api_Answer)) false false))])
def fin_osmosisref1_Table_Do_2_J0 (x2 : Int × Bool) (p_b1 : List api_Pair) (o : api_Op) : Unit ⊕ Unit → Ex × Fast × WH := fun
  | .inl e => (.ret, [(4, (.ptr (some (2, 0))))], [(some (.cells [(.acc 1 0 2 p_b1.length true)] false false)), (some (.cells (F_api_Pair p_b1) false true)), (some (.cells (e_api_Answer (⟨5, ([] : List UInt8)⟩ : api_Answer)) false false))])
  | .inr e => (.normal, [(0, (.ptr (some (0, 0)))), (3, (.ptr (some (2, 0)))), (4, (.ptr (some (3, 0)))), (5, (.int .i64 x2.1)), (6, (.bool x2.2))], [(some (.cells [(.acc 1 0 2 p_b1.length true)] false false)), (some (.cells (F_api_Pair p_b1) false true)), (some (.cells (e_api_Op o) false false)), (some (.cells (e_api_Answer (⟨0, ([] : List UInt8)⟩ : api_Answer)) false false))])
def osmosisref1_Table_Do_2_J0 (x2 : Int × Bool) (p_b1 : List api_Pair) (o : api_Op) : Option (Unit ⊕ Unit) :=
  cond (!x2.2) (cond (decide ((p_b1.length : Int) ≥ 8)) (some (.inl ())) (some (.inr ()))) (some (.inr ()))
theorem s_osmosisref1_Table_Do_2_J0 (d : Nat) {x2 : Int × Bool} {p_b1 : List api_Pair} {o : api_Op} {r : Unit ⊕ Unit} (h : osmosisref1_Table_Do_2_J0 x2 p_b1 o = some r) : RunX (bexec (wcalls atab (d + 0)) KK 147 WJ62_bbbabkbfbta) 2 (in_osmosisref1_Table_Do_2_J0 x2 p_b1 o) (fin_osmosisref1_Table_Do_2_J0 x2 p_b1 o r) := by
  have e : ∀ C : ACalls, wCode C (fun _ => none) KK 147 2 WJ62_bbbabkbfbta (in_osmosisref1_Table_Do_2_J0 x2 p_b1 o).1 (in_osmosisref1_Table_Do_2_J0 x2 p_b1 o).2 (.br 40 (.br 47 (.st none (.en [4] [none] [] [])) (.en [0, 3, 4, 5, 6] [none, none, none, none, none] [] [])) (.en [0, 3, 4, 5, 6] [none, none, none, none, none] [] [])) (fin_osmosisref1_Table_Do_2_J0 x2 p_b1 o r) = (((!x2.2) = true → (((decide ((p_b1.length : Int) ≥ 8)) = true → lfe (fin_osmosisref1_Table_Do_2_J0 x2 p_b1 o) (.inl ()) r) ∧ ((decide ((p_b1.length : Int) ≥ 8)) = false → lfe (fin_osmosisref1_Table_Do_2_J0 x2 p_b1 o) (.inr ()) r))) ∧ ((!x2.2) = false → lfe (fin_osmosisref1_Table_Do_2_J0 x2 p_b1 o) (.inr ()) r)) := fun C => by kernel_rfl
  refine runS_of (fun _ _ h => by cases h) WJ62_bbbabkbfbta_ok (Nat.le_of_ble_eq_true rfl) ((e _).mpr ?_)
  unfold osmosisref1_Table_Do_2_J0 at h
  refine ⟨fun hb => ?_, fun hb => ?_⟩
  · have h := cond_t hb h
    refine ⟨fun hb => ?_, fun hb => ?_⟩
    · have h := cond_t hb h
      exact lfe_of h
    · have h := cond_f hb h
      exact lfe_of h
  · have h := cond_f hb h
    exact lfe_of h

abbrev in_osmosisref1_Table_Do_2_J1 (x2 : Int × Bool) (x6 : List api_Pair) (o : api_Op) (p_b1 : List api_Pair) : Fast × WH := ([(0, (.ptr (some (0, 0)))), (4, (.ptr (some (2, 0)))), (5, (.int .i64 x2.1)), (6, (.bool x2.2)), (7, (.acc 3 0 2 ((x6 ++ [(⟨o.Key, o.Value⟩ : api_Pair)]).length) true))], [(some (.cells [(.acc 1 0 2 p_b1.length true)] false false)), (some (.cells (F_api_Pair p_b1) false true)), (some (.cells (e_api_Answer (⟨0, ([] : List UInt8)⟩ : api_Answer)) false false)), (some (.cells (F_api_Pair (x6 ++ [(⟨o.Key, o.Value⟩ : api_Pair)])) false true))])
def fin_osmosisref1_Table_Do_2_J1 (x2 : Int × Bool) (x6 : List api_Pair) (o : api_Op) (p_b1 : List api_Pair) : Int → Ex × Fast × WH := fun e => (.normal, [(0, (.ptr (some (0, 0)))), (4, (.ptr (some (2, 0)))), (5, (.int .i64 e)), (7, (.acc 3 0 2 ((x6 ++ [(⟨o.Key, o.Value⟩ : api_Pair)]).length) true))], [(some (.cells [(.acc 1 0 2 p_b1.length true)] false false)), (some (.cells (F_api_Pair p_b1) false true)), (some (.cells (e_api_Answer (⟨0, ([] : List UInt8)⟩ : api_Answer)) false false)), (some (.cells (F_api_Pair (x6 ++ [(⟨o.Key, o.Value⟩ : api_Pair)])) false true))])
def osmosisref1_Table_Do_2_J1 (x2 : Int × Bool) (x6 : List api_Pair) (o : api_Op) (p_b1 : List api_Pair) : Option (Int) :=
  cond x2.2 (some (IntKind.i64.wrap (x2.1 + 1))) (some x2.1)
theorem s_osmosisref1_Table_Do_2_J1 (d : Nat) {x2 : Int × Bool} {x6 : List api_Pair} {o : api_Op} {p_b1 : List api_Pair} {r : Int} (h : osmosisref1_Table_Do_2_J1 x2 x6 o p_b1 = some r) : RunX (bexec (wcalls atab (d + 0)) KK 147 WJ62_bbbabkbfbtbbba) 2 (in_osmosisref1_Table_Do_2_J1 x2 x6 o p_b1) (fin_osmosisref1_Table_Do_2_J1 x2 x6 o p_b1 r) := by
  have e : ∀ C : ACalls, wCode C (fun _ => none) KK 147 2 WJ62_bbbabkbfbtbbba (in_osmosisref1_Table_Do_2_J1 x2 x6 o p_b1).1 (in_osmosisref1_Table_Do_2_J1 x2 x6 o p_b1).2 (.br 65 (.en [0, 4, 5, 7] [none, none, none, none] [] [.undef, .undef, .undef, .slice none 2 0 0 true]) (.en [0, 4, 5, 7] [none, none, none, none] [] [.undef, .undef, .undef, .slice none 2 0 0 true])) (fin_osmosisref1_Table_Do_2_J1 x2 x6 o p_b1 r) = ((x2.2 = true → lfe (fin_osmosisref1_Table_Do_2_J1 x2 x6 o p_b1) (IntKind.i64.wrap (x2.1 + 1)) r) ∧ (x2.2 = false → lfe (fin_osmosisref1_Table_Do_2_J1 x2 x6 o p_b1) x2.1 r)) := fun C => by kernel_rfl
  refine runS_of (fun _ _ h => by cases h) WJ62_bbbabkbfbtbbba_ok (Nat.le_of_ble_eq_true rfl) ((e _).mpr ?_)
  unfold osmosisref1_Table_Do_2_J1 at h
  refine ⟨fun hb => ?_, fun hb => ?_⟩
  · have h := cond_t hb h
    exact lfe_of h
  · have h := cond_f hb h
    exact lfe_of h

def osmosisref1_Table_Do_2 (o : api_Op) (p_b1 : List api_Pair) : Option (api_Answer × List api_Pair) :=
  (osmosisref1_RightOp o).bind fun (x1 : Bool) => cond (!x1) (some ((⟨1, ([] : List UInt8)⟩ : api_Answer), p_b1)) ((osmosisref1_Table_find_2 o.Key p_b1).bind fun (x2 : Int × Bool) => cond (o.Kind == 1) (cond (!x2.2) (some ((⟨4, ([] : List UInt8)⟩ : api_Answer), p_b1)) ((getI p_b1 x2.1).bind fun (x3 : api_Pair) => some ((⟨0, x3.Value⟩ : api_Answer), p_b1))) (cond (o.Kind == 2) ((osmosisref1_Table_Do_2_J0 x2 p_b1 o).bind fun (x4 : Unit ⊕ Unit) => cond (isL x4) (some ((⟨5, ([] : List UInt8)⟩ : api_Answer), p_b1)) ((slI p_b1 0 x2.1).bind fun (x6 : List api_Pair) => gd (fitsB 32 x6.length) (gd (fitsB 32 (x6 ++ [(⟨o.Key, o.Value⟩ : api_Pair)]).length) ((osmosisref1_Table_Do_2_J1 x2 x6 o p_b1).bind fun (x9 : Int) => (slI p_b1 x9 p_b1.length).bind fun (x10 : List api_Pair) => gd (fitsB 32 ((x6 ++ [(⟨o.Key, o.Value⟩ : api_Pair)]) ++ x10).length) (some ((⟨0, ([] : List UInt8)⟩ : api_Answer), ((x6 ++ [(⟨o.Key, o.Value⟩ : api_Pair)]) ++ x10))))))) (cond (o.Kind == 3) (cond (!x2.2) (some ((⟨4, ([] : List UInt8)⟩ : api_Answer), p_b1)) ((slI p_b1 0 x2.1).bind fun (x12 : List api_Pair) => gd (fitsB 32 x12.length) ((slI p_b1 (IntKind.i64.wrap (x2.1 + 1)) p_b1.length).bind fun (x14 : List api_Pair) => gd (fitsB 32 (x12 ++ x14).length) (some ((⟨0, ([] : List UInt8)⟩ : api_Answer), (x12 ++ x14)))))) (cond (!x2.2) (some ((⟨4, ([] : List UInt8)⟩ : api_Answer), p_b1)) ((getI p_b1 x2.1).bind fun (x16 : api_Pair) => cond (!(x16.Value == o.Old)) ((getI p_b1 x2.1).bind fun (x17 : api_Pair) => some ((⟨6, x17.Value⟩ : api_Answer), p_b1)) (gd (fitsB 32 p_b1.length) ((getI p_b1 x2.1).bind fun (x19 : api_Pair) => some ((⟨0, ([] : List UInt8)⟩ : api_Answer), (p_b1.set x2.1.toNat (⟨x19.Key, o.Value⟩ : api_Pair))))))))))
def out_osmosisref1_Table_Do_2 (o : api_Op) (p_b1 : List api_Pair) (r : api_Answer × List api_Pair) : AV × WH := ((.agg (e_api_Answer r.1)), [(some (.cells [(.acc 2 0 2 r.2.length true)] false false)), none, (some (.cells (F_api_Pair r.2) false true))])

theorem s_osmosisref1_Table_Do_2 (d : Nat) {o : api_Op} {p_b1 : List api_Pair} {r : api_Answer × List api_Pair} (h : osmosisref1_Table_Do_2 o p_b1 = some r) : Spec (wcalls atab (d + 2)) 62 [(.ptr (some (0, 0))), (.agg (e_api_Op o))] [(some (.cells [(.acc 1 0 2 p_b1.length true)] false false)), (some (.cells (F_api_Pair p_b1) false true))] (out_osmosisref1_Table_Do_2 o p_b1 r).1 (out_osmosisref1_Table_Do_2 o p_b1 r).2 := by
  obtain ⟨x1, hx1⟩ := wx (osmosisref1_RightOp o)
  obtain ⟨x2, hx2⟩ := wx (osmosisref1_Table_find_2 o.Key p_b1)
  obtain ⟨x3, hx3⟩ := wx (getI p_b1 x2.1)
  obtain ⟨x4, hx4⟩ := wx (osmosisref1_Table_Do_2_J0 x2 p_b1 o)
  obtain ⟨x6, hx6⟩ := wx (slI p_b1 0 x2.1)
  obtain ⟨x9, hx9⟩ := wx (osmosisref1_Table_Do_2_J1 x2 x6 o p_b1)
  obtain ⟨x10, hx10⟩ := wx (slI p_b1 x9 p_b1.length)
  obtain ⟨x12, hx12⟩ := wx (slI p_b1 0 x2.1)
  obtain ⟨x14, hx14⟩ := wx (slI p_b1 (IntKind.i64.wrap (x2.1 + 1)) p_b1.length)
  obtain ⟨x16, hx16⟩ := wx (getI p_b1 x2.1)
  obtain ⟨x17, hx17⟩ := wx (getI p_b1 x2.1)
  obtain ⟨x19, hx19⟩ := wx (getI p_b1 x2.1)
  have e : ∀ C : ACalls, wBody C (fun _ => none) KK WF62 [(.ptr (some (0, 0))), (.agg (e_api_Op o))] [(some (.cells [(.acc 1 0 2 p_b1.length true)] false false)), (some (.cells (F_api_Pair p_b1) false true))] (.cb [] [] (.bool x1) (.br 11 (.st none (.fin (some false) [] (some true))) (.call [] none [] (.tuple [(.int .i64 x2.1), (.bool x2.2)]) [(some (.cells [(.acc 1 0 2 p_b1.length true)] false false)), (some (.cells (F_api_Pair p_b1) false true))] (.br 22 (.br 25 (.st none (.fin (some false) [] (some true))) (.v 32 (.ptr (some (1, 0 + x2.1.toNat * 2))) (.v 34 (.str x3.Value) (.st none (.fin (some false) [] (some true)))))) (.br 36 (.ite (isL x4) (.jn [0, 3, 4, 5, 6] [none, none, none, none, none] [] [] .ret [(4, (.ptr (some (2, 0))))] [(some (.cells [(.acc 1 0 2 p_b1.length true)] false false)), (some (.cells (F_api_Pair p_b1) false true)), (some (.cells (e_api_Answer (⟨5, ([] : List UInt8)⟩ : api_Answer)) false false))] (.fin (some false) [] (some true))) (.jn [0, 3, 4, 5, 6] [none, none, none, none, none] [] [] .normal [(0, (.ptr (some (0, 0)))), (3, (.ptr (some (2, 0)))), (4, (.ptr (some (3, 0)))), (5, (.int .i64 x2.1)), (6, (.bool x2.2))] [(some (.cells [(.acc 1 0 2 p_b1.length true)] false false)), (some (.cells (F_api_Pair p_b1) false true)), (some (.cells (e_api_Op o) false false)), (some (.cells (e_api_Answer (⟨0, ([] : List UInt8)⟩ : api_Answer)) false false))] (.v 55 (.acc 1 0 2 x6.length false) (.ap 56 x6.length (F_api_Pair x6) (.ap 64 (x6 ++ [(⟨o.Key, o.Value⟩ : api_Pair)]).length (F_api_Pair (x6 ++ [(⟨o.Key, o.Value⟩ : api_Pair)])) (.jn [0, 4, 5, 6, 7] [none, none, none, none, none] [] [.undef, .undef, .undef, .undef, .slice none 2 0 0 true] .normal [(0, (.ptr (some (0, 0)))), (4, (.ptr (some (2, 0)))), (5, (.int .i64 x9)), (7, (.acc 3 0 2 ((x6 ++ [(⟨o.Key, o.Value⟩ : api_Pair)]).length) true))] [(some (.cells [(.acc 1 0 2 p_b1.length true)] false false)), (some (.cells (F_api_Pair p_b1) false true)), (some (.cells (e_api_Answer (⟨0, ([] : List UInt8)⟩ : api_Answer)) false false)), (some (.cells (F_api_Pair (x6 ++ [(⟨o.Key, o.Value⟩ : api_Pair)])) false true))] (.v 75 (.acc 1 (0 + x9.toNat * 2) 2 x10.length false) (.ap 76 ((x6 ++ [(⟨o.Key, o.Value⟩ : api_Pair)]) ++ x10).length (F_api_Pair ((x6 ++ [(⟨o.Key, o.Value⟩ : api_Pair)]) ++ x10)) (.st none (.st none (.kl [1] (.fin (some false) [] (some true))))))))))))) (.br 80 (.br 83 (.st none (.fin (some false) [] (some true))) (.v 92 (.acc 1 0 2 x12.length false) (.ap 93 x12.length (F_api_Pair x12) (.v 100 (.acc 1 (0 + (IntKind.i64.wrap (x2.1 + 1)).toNat * 2) 2 x14.length false) (.ap 101 (x12 ++ x14).length (F_api_Pair (x12 ++ x14)) (.st none (.st none (.kl [1] (.fin (some false) [] (some true)))))))))) (.br 105 (.st none (.fin (some false) [] (some true))) (.v 115 (.ptr (some (1, 0 + x2.1.toNat * 2))) (.v 117 (.str x16.Value) (.br 109 (.v 126 (.ptr (some (1, 0 + x2.1.toNat * 2))) (.v 128 (.str x17.Value) (.st none (.fin (some false) [] (some true))))) (.ap 135 p_b1.length (F_api_Pair p_b1) (.v 140 (.ptr (some (5, 0 + x2.1.toNat * 2))) (.st (some (F_api_Pair (p_b1.set x2.1.toNat (⟨x19.Key, o.Value⟩ : api_Pair)))) (.st none (.st none (.kl [1] (.fin (some false) [] (some true)))))))))))))))))) (out_osmosisref1_Table_Do_2 o p_b1 r).1 (out_osmosisref1_Table_Do_2 o p_b1 r).2 = (2 = 2 ∧ 2 ≤ 147 ∧ (Spec C 63 [(.agg (e_api_Op o))] [] (.bool x1) [] ∧ (((!x1) = true → lff (out_osmosisref1_Table_Do_2 o p_b1) ((⟨1, ([] : List UInt8)⟩ : api_Answer), p_b1) r) ∧ ((!x1) = false → (Spec C 104 [(.ptr (some (0, 0))), (.str o.Key)] [(some (.cells [(.acc 1 0 2 p_b1.length true)] false false)), (some (.cells (F_api_Pair p_b1) false true))] (.tuple [(.int .i64 x2.1), (.bool x2.2)]) [(some (.cells [(.acc 1 0 2 p_b1.length true)] false false)), (some (.cells (F_api_Pair p_b1) false true))] ∧ (2 ≤ 2 ∧ (((o.Kind == 1) = true → (((!x2.2) = true → lff (out_osmosisref1_Table_Do_2 o p_b1) ((⟨4, ([] : List UInt8)⟩ : api_Answer), p_b1) r) ∧ ((!x2.2) = false → (wP (.idxSlice 2 (.c (.acc 1 0 2 p_b1.length true)) (.c (.int .i64 x2.1))) = some (.ptr (some (1, 0 + x2.1.toNat * 2))) ∧ (cPart false (0 + x2.1.toNat * 2 + 1) 1 (F_api_Pair p_b1) = some (.str x3.Value) ∧ lff (out_osmosisref1_Table_Do_2 o p_b1) ((⟨0, x3.Value⟩ : api_Answer), p_b1) r))))) ∧ ((o.Kind == 1) = false → (((o.Kind == 2) = true → (((isL x4) = true → (RunS (bexec C KK 147 WJ62_bbbabkbfbta) 2 [(0, (.ptr (some (0, 0)))), (3, (.ptr (some (2, 0)))), (4, (.ptr (some (3, 0)))), (5, (.int .i64 x2.1)), (6, (.bool x2.2))] [(some (.cells [(.acc 1 0 2 p_b1.length true)] false false)), (some (.cells (F_api_Pair p_b1) false true)), (some (.cells (e_api_Op o) false false)), (some (.cells (e_api_Answer (⟨0, ([] : List UInt8)⟩ : api_Answer)) false false))] .ret [(4, (.ptr (some (2, 0))))] [(some (.cells [(.acc 1 0 2 p_b1.length true)] false false)), (some (.cells (F_api_Pair p_b1) false true)), (some (.cells (e_api_Answer (⟨5, ([] : List UInt8)⟩ : api_Answer)) false false))] ∧ lff (out_osmosisref1_Table_Do_2 o p_b1) ((⟨5, ([] : List UInt8)⟩ : api_Answer), p_b1) r)) ∧ ((isL x4) = false → (RunS (bexec C KK 147 WJ62_bbbabkbfbta) 2 [(0, (.ptr (some (0, 0)))), (3, (.ptr (some (2, 0)))), (4, (.ptr (some (3, 0)))), (5, (.int .i64 x2.1)), (6, (.bool x2.2))] [(some (.cells [(.acc 1 0 2 p_b1.length true)] false false)), (some (.cells (F_api_Pair p_b1) false true)), (some (.cells (e_api_Op o) false false)), (some (.cells (e_api_Answer (⟨0, ([] : List UInt8)⟩ : api_Answer)) false false))] .normal [(0, (.ptr (some (0, 0)))), (3, (.ptr (some (2, 0)))), (4, (.ptr (some (3, 0)))), (5, (.int .i64 x2.1)), (6, (.bool x2.2))] [(some (.cells [(.acc 1 0 2 p_b1.length true)] false false)), (some (.cells (F_api_Pair p_b1) false true)), (some (.cells (e_api_Op o) false false)), (some (.cells (e_api_Answer (⟨0, ([] : List UInt8)⟩ : api_Answer)) false false))] ∧ (wP (.slice 2 (.c (.acc 1 0 2 p_b1.length true)) none (some (.c (.int .i64 x2.1))) none) = some (.acc 1 0 2 x6.length false) ∧ (0 + x6.length = x6.length ∧ (F_api_Pair [] ++ ((F_api_Pair p_b1).drop (0)).take (x6.length * 2) = F_api_Pair x6 ∧ (fitsB 32 x6.length = true ∧ (x6.length + 1 = (x6 ++ [(⟨o.Key, o.Value⟩ : api_Pair)]).length ∧ (F_api_Pair x6 ++ F_api_Pair ([(⟨o.Key, o.Value⟩ : api_Pair)]) = F_api_Pair (x6 ++ [(⟨o.Key, o.Value⟩ : api_Pair)]) ∧ (fitsB 32 (x6 ++ [(⟨o.Key, o.Value⟩ : api_Pair)]).length = true ∧ (RunS (bexec C KK 147 WJ62_bbbabkbfbtbbba) 2 [(0, (.ptr (some (0, 0)))), (4, (.ptr (some (2, 0)))), (5, (.int .i64 x2.1)), (6, (.bool x2.2)), (7, (.acc 3 0 2 ((x6 ++ [(⟨o.Key, o.Value⟩ : api_Pair)]).length) true))] [(some (.cells [(.acc 1 0 2 p_b1.length true)] false false)), (some (.cells (F_api_Pair p_b1) false true)), (some (.cells (e_api_Answer (⟨0, ([] : List UInt8)⟩ : api_Answer)) false false)), (some (.cells (F_api_Pair (x6 ++ [(⟨o.Key, o.Value⟩ : api_Pair)])) false true))] .normal [(0, (.ptr (some (0, 0)))), (4, (.ptr (some (2, 0)))), (5, (.int .i64 x9)), (7, (.acc 3 0 2 ((x6 ++ [(⟨o.Key, o.Value⟩ : api_Pair)]).length) true))] [(some (.cells [(.acc 1 0 2 p_b1.length true)] false false)), (some (.cells (F_api_Pair p_b1) false true)), (some (.cells (e_api_Answer (⟨0, ([] : List UInt8)⟩ : api_Answer)) false false)), (some (.cells (F_api_Pair (x6 ++ [(⟨o.Key, o.Value⟩ : api_Pair)])) false true))] ∧ (wP (.slice 2 (.c (.acc 1 0 2 p_b1.length true)) (some (.c (.int .i64 x9))) none none) = some (.acc 1 (0 + x9.toNat * 2) 2 x10.length false) ∧ ((x6 ++ [(⟨o.Key, o.Value⟩ : api_Pair)]).length + x10.length = ((x6 ++ [(⟨o.Key, o.Value⟩ : api_Pair)]) ++ x10).length ∧ (F_api_Pair (x6 ++ [(⟨o.Key, o.Value⟩ : api_Pair)]) ++ ((F_api_Pair p_b1).drop (0 + x9.toNat * 2)).take (x10.length * 2) = F_api_Pair ((x6 ++ [(⟨o.Key, o.Value⟩ : api_Pair)]) ++ x10) ∧ (fitsB 32 ((x6 ++ [(⟨o.Key, o.Value⟩ : api_Pair)]) ++ x10).length = true ∧ lff (out_osmosisref1_Table_Do_2 o p_b1) ((⟨0, ([] : List UInt8)⟩ : api_Answer), ((x6 ++ [(⟨o.Key, o.Value⟩ : api_Pair)]) ++ x10)) r)))))))))))))))) ∧ ((o.Kind == 2) = false → (((o.Kind == 3) = true → (((!x2.2) = true → lff (out_osmosisref1_Table_Do_2 o p_b1) ((⟨4, ([] : List UInt8)⟩ : api_Answer), p_b1) r) ∧ ((!x2.2) = false → (wP (.slice 2 (.c (.acc 1 0 2 p_b1.length true)) none (some (.c (.int .i64 x2.1))) none) = some (.acc 1 0 2 x12.length false) ∧ (0 + x12.length = x12.length ∧ (F_api_Pair [] ++ ((F_api_Pair p_b1).drop (0)).take (x12.length * 2) = F_api_Pair x12 ∧ (fitsB 32 x12.length = true ∧ (wP (.slice 2 (.c (.acc 1 0 2 p_b1.length true)) (some (.c (.int .i64 (IntKind.i64.wrap (x2.1 + 1))))) none none) = some (.acc 1 (0 + (IntKind.i64.wrap (x2.1 + 1)).toNat * 2) 2 x14.length false) ∧ (x12.length + x14.length = (x12 ++ x14).length ∧ (F_api_Pair x12 ++ ((F_api_Pair p_b1).drop (0 + (IntKind.i64.wrap (x2.1 + 1)).toNat * 2)).take (x14.length * 2) = F_api_Pair (x12 ++ x14) ∧ (fitsB 32 (x12 ++ x14).length = true ∧ lff (out_osmosisref1_Table_Do_2 o p_b1) ((⟨0, ([] : List UInt8)⟩ : api_Answer), (x12 ++ x14)) r))))))))))) ∧ ((o.Kind == 3) = false → (((!x2.2) = true → lff (out_osmosisref1_Table_Do_2 o p_b1) ((⟨4, ([] : List UInt8)⟩ : api_Answer), p_b1) r) ∧ ((!x2.2) = false → (wP (.idxSlice 2 (.c (.acc 1 0 2 p_b1.length true)) (.c (.int .i64 x2.1))) = some (.ptr (some (1, 0 + x2.1.toNat * 2))) ∧ (cPart false (0 + x2.1.toNat * 2 + 1) 1 (F_api_Pair p_b1) = some (.str x16.Value) ∧ (((!(x16.Value == o.Old)) = true → (wP (.idxSlice 2 (.c (.acc 1 0 2 p_b1.length true)) (.c (.int .i64 x2.1))) = some (.ptr (some (1, 0 + x2.1.toNat * 2))) ∧ (cPart false (0 + x2.1.toNat * 2 + 1) 1 (F_api_Pair p_b1) = some (.str x17.Value) ∧ lff (out_osmosisref1_Table_Do_2 o p_b1) ((⟨6, x17.Value⟩ : api_Answer), p_b1) r))) ∧ ((!(x16.Value == o.Old)) = false → (0 + p_b1.length = p_b1.length ∧ (F_api_Pair [] ++ F_api_Pair p_b1 = F_api_Pair p_b1 ∧ (fitsB 32 p_b1.length = true ∧ (wP (.idxSlice 2 (.c (.acc 5 0 2 p_b1.length true)) (.c (.int .i64 x2.1))) = some (.ptr (some (5, 0 + x2.1.toNat * 2))) ∧ (wrC (F_api_Pair p_b1) (0 + x2.1.toNat * 2 + 1) [(.str o.Value)] = some (F_api_Pair (p_b1.set x2.1.toNat (⟨x19.Key, o.Value⟩ : api_Pair))) ∧ (@Eq AV (.agg (e_api_Answer (⟨0, ([] : List UInt8)⟩ : api_Answer))) (out_osmosisref1_Table_Do_2 o p_b1 r).1 ∧ @Eq WH [(some (.cells [(.acc 2 0 2 p_b1.length true)] false false)), none, (some (.cells (F_api_Pair (p_b1.set x2.1.toNat (⟨x19.Key, o.Value⟩ : api_Pair))) false true))] (out_osmosisref1_Table_Do_2 o p_b1 r).2)))))))))))))))))))))))) := fun C => by kernel_rfl
  refine spec_of (fun _ _ h => by cases h) rfl atab_62 WF62_ok ((e _).mpr ⟨rfl, by decide, ?_⟩)
  unfold osmosisref1_Table_Do_2 at h
  obtain ⟨q1, h⟩ := bget hx1 h
  refine ⟨s_osmosisref1_RightOp (d + 0) q1, ?_⟩
  refine ⟨fun hb => ?_, fun hb => ?_⟩
  · have h := cond_t hb h
    exact lff_of h
  · have h := cond_f hb h
    obtain ⟨q2, h⟩ := bget hx2 h
    refine ⟨s_osmosisref1_Table_find_2 (d + 0) q2, ?_⟩
    refine ⟨by decide, ?_⟩
    refine ⟨fun hb => ?_, fun hb => ?_⟩
    · have h := cond_t hb h
      refine ⟨fun hb => ?_, fun hb => ?_⟩
      · have h := cond_t hb h
        exact lff_of h
      · have h := cond_f hb h
        obtain ⟨q3, h⟩ := bget hx3 h
        refine ⟨wP_idxA R_api_Pair q3, ?_⟩
        refine ⟨cP_row (o := 1) R_api_Pair q3 rfl, ?_⟩
        exact lff_of h
    · have h := cond_f hb h
      refine ⟨fun hb => ?_, fun hb => ?_⟩
      · have h := cond_t hb h
        obtain ⟨q4, h⟩ := bget hx4 h
        refine ⟨fun hb5 => ?_, fun hb5 => ?_⟩
        · have h := cond_t hb5 h
          refine ⟨by have h := s_osmosisref1_Table_Do_2_J0 (d + 1) q4; rw [isL_t hb5] at h; exact h, ?_⟩
          exact lff_of h
        · have h := cond_f hb5 h
          refine ⟨by have h := s_osmosisref1_Table_Do_2_J0 (d + 1) q4; rw [isL_f hb5] at h; exact h, ?_⟩
          obtain ⟨q6, h⟩ := bget hx6 h
          refine ⟨wP_slA_h R_api_Pair q6, ?_⟩
          try rw [take_row R_api_Pair q6]
          try rw [part_row0 R_api_Pair q6]
          obtain ⟨q7, h⟩ := gd_some h
          refine ⟨by simp, ?_⟩
          refine ⟨by first | rfl | simp [F_api_Pair], ?_⟩
          refine ⟨q7, ?_⟩
          obtain ⟨q8, h⟩ := gd_some h
          refine ⟨by simp, ?_⟩
          refine ⟨(Row.app R_api_Pair _ _).symm, ?_⟩
          refine ⟨q8, ?_⟩
          obtain ⟨q9, h⟩ := bget hx9 h
          refine ⟨s_osmosisref1_Table_Do_2_J1 (d + 1) q9, ?_⟩
          obtain ⟨q10, h⟩ := bget hx10 h
          refine ⟨wP_slA_l R_api_Pair q10, ?_⟩
          try rw [part_row R_api_Pair q10]
          obtain ⟨q11, h⟩ := gd_some h
          refine ⟨app_len _ _, ?_⟩
          refine ⟨(Row.app R_api_Pair _ _).symm, ?_⟩
          refine ⟨q11, ?_⟩
          exact lff_of h
      · have h := cond_f hb h
        refine ⟨fun hb => ?_, fun hb => ?_⟩
        · have h := cond_t hb h
          refine ⟨fun hb => ?_, fun hb => ?_⟩
          · have h := cond_t hb h
            exact lff_of h
          · have h := cond_f hb h
            obtain ⟨q12, h⟩ := bget hx12 h
            refine ⟨wP_slA_h R_api_Pair q12, ?_⟩
            try rw [take_row R_api_Pair q12]
            try rw [part_row0 R_api_Pair q12]
            obtain ⟨q13, h⟩ := gd_some h
            refine ⟨by simp, ?_⟩
            refine ⟨by first | rfl | simp [F_api_Pair], ?_⟩
            refine ⟨q13, ?_⟩
            obtain ⟨q14, h⟩ := bget hx14 h
            refine ⟨wP_slA_l R_api_Pair q14, ?_⟩
            try rw [part_row R_api_Pair q14]
            obtain ⟨q15, h⟩ := gd_some h
            refine ⟨app_len _ _, ?_⟩
            refine ⟨(Row.app R_api_Pair _ _).symm, ?_⟩
            refine ⟨q15, ?_⟩
            exact lff_of h
        · have h := cond_f hb h
          refine ⟨fun hb => ?_, fun hb => ?_⟩
          · have h := cond_t hb h
            exact lff_of h
          · have h := cond_f hb h
            obtain ⟨q16, h⟩ := bget hx16 h
            refine ⟨wP_idxA R_api_Pair q16, ?_⟩
            refine ⟨cP_row (o := 1) R_api_Pair q16 rfl, ?_⟩
            refine ⟨fun hb => ?_, fun hb => ?_⟩
            · have h := cond_t hb h
              obtain ⟨q17, h⟩ := bget hx17 h
              refine ⟨wP_idxA R_api_Pair q17, ?_⟩
              refine ⟨cP_row (o := 1) R_api_Pair q17 rfl, ?_⟩
              exact lff_of h
            · have h := cond_f hb h
              obtain ⟨q18, h⟩ := gd_some h
              refine ⟨by simp, ?_⟩
              refine ⟨by first | rfl | simp [F_api_Pair], ?_⟩
              refine ⟨q18, ?_⟩
              obtain ⟨q19, h⟩ := bget hx19 h
              refine ⟨wP_idxA R_api_Pair q19, ?_⟩
              refine ⟨wr_row (o := 1) R_api_Pair q19 rfl, ?_⟩
              try rw [show AV.list 2 p_b1.length (F_api_Pair (p_b1.set x2.1.toNat (⟨x19.Key, o.Value⟩ : api_Pair))) false = l_api_Pair (p_b1.set x2.1.toNat (⟨x19.Key, o.Value⟩ : api_Pair)) from by simp only [l_api_Pair, List.length_set]]
              obtain rfl := Option.some.inj h
              refine ⟨?_, ?_⟩ <;> first | rfl | (simp only [out_osmosisref1_Table_Do_2, List.length_set, List.length_append, List.length_replicate, List.length_cons, List.length_nil, List.length_take, List.length_drop, Nat.add_zero, Nat.zero_add]; done) | simp [out_osmosisref1_Table_Do_2]

/- osmosis/osmosisref1.TableOf -/
def st_osmosisref1_TableOf_L0 (l : List api_Pair) (s7 : Int × List api_Pair) : List AV × WH := ([(l_api_Pair l), (.ptr (some (0, 0))), (.ptr (some (1, 0))), (.int .i64 s7.1)], [(some (.cells [(.acc 2 0 2 0 true)] false false)), (some (.cells [(.acc 3 0 2 s7.2.length true)] false false)), (some (.cells (F_api_Pair []) false true)), (some (.cells (F_api_Pair s7.2) false true))])
def fin_osmosisref1_TableOf_L0 (l : List api_Pair) : (List api_Pair) → Ex × Fast × WH := fun e => ((.exit 0), [(2, (.ptr (some (0, 0)))), (3, (.ptr (some (1, 0))))], [(some (.cells [(.acc 2 0 2 0 true)] false false)), (some (.cells [(.acc 3 0 2 e.length true)] false false)), (some (.cells (F_api_Pair []) false true)), (some (.cells (F_api_Pair e) false true))])
abbrev rx_osmosisref1_TableOf_L0 (l : List api_Pair) := roundX [0, 2, 3, 4] (st_osmosisref1_TableOf_L0 l) (fin_osmosisref1_TableOf_L0 l)
def osmosisref1_TableOf_L0_s (l : List api_Pair) (s7 : Int × List api_Pair) : Option ((Int × List api_Pair) ⊕ ((List api_Pair))) :=
  cond (decide (s7.1 < (l.length : Int))) ((getI l s7.1).bind fun (x8 : api_Pair) => (getI l s7.1).bind fun (x9 : api_Pair) => (osmosisref1_Table_Do_2 (⟨2, x8.Key, x9.Value, ([] : List UInt8)⟩ : api_Op) s7.2).bind fun (x10 : api_Answer × List api_Pair) => some (.inl ((IntKind.i64.wrap (s7.1 + 1)), x10.2))) (some (.inr s7.2))
def osmosisref1_TableOf_L0 (l : List api_Pair) (s7 : Int × List api_Pair) : Option ((List api_Pair)) := loopX (osmosisref1_TableOf_L0_s l) KK s7
theorem b_osmosisref1_TableOf_L0 (d : Nat) {l : List api_Pair} {s7 : Int × List api_Pair} {r : (Int × List api_Pair) ⊕ ((List api_Pair))} (h : osmosisref1_TableOf_L0_s l s7 = some r) : RunX (bexec (wcalls atab (d + 2)) KK 25 WB60_0) 0 (inL [0, 2, 3, 4] (st_osmosisref1_TableOf_L0 l s7)) (rx_osmosisref1_TableOf_L0 l r) := by
  obtain ⟨x8, hx8⟩ := wx (getI l s7.1)
  obtain ⟨x9, hx9⟩ := wx (getI l s7.1)
  obtain ⟨x10, hx10⟩ := wx (osmosisref1_Table_Do_2 (⟨2, x8.Key, x9.Value, ([] : List UInt8)⟩ : api_Op) s7.2)
  have e : ∀ C : ACalls, wCode C (fun _ => none) KK 25 0 WB60_0 (inL [0, 2, 3, 4] (st_osmosisref1_TableOf_L0 l s7)).1 (inL [0, 2, 3, 4] (st_osmosisref1_TableOf_L0 l s7)).2 (.br 9 (.v 14 (.elem ((e_api_Pair x8) ++ F_api_Pair (l.drop (s7.1.toNat + 1)))) (.v 19 (.elem ((e_api_Pair x9) ++ F_api_Pair (l.drop (s7.1.toNat + 1)))) (.call [] none [] (.agg (e_api_Answer x10.1)) [(some (.cells [(.acc 2 0 2 x10.2.length true)] false false)), none, (some (.cells (F_api_Pair x10.2) false true))] (.en [0, 2, 3, 4] [none, none, none, none] [] [.slice none 2 0 0 true, .undef, .undef, .undef])))) (.en [2, 3] [none, none] [] [])) (rx_osmosisref1_TableOf_L0 l r) = (((decide (s7.1 < (l.length : Int))) = true → (wP (.idxSlice 2 (.c (l_api_Pair l)) (.c (.int .i64 s7.1))) = some (.elem ((e_api_Pair x8) ++ F_api_Pair (l.drop (s7.1.toNat + 1)))) ∧ (wP (.idxSlice 2 (.c (l_api_Pair l)) (.c (.int .i64 s7.1))) = some (.elem ((e_api_Pair x9) ++ F_api_Pair (l.drop (s7.1.toNat + 1)))) ∧ (Spec C 62 [(.ptr (some (0, 0))), (.agg (e_api_Op (⟨2, x8.Key, x9.Value, ([] : List UInt8)⟩ : api_Op)))] [(some (.cells [(.acc 1 0 2 s7.2.length true)] false false)), (some (.cells (F_api_Pair s7.2) false true))] (.agg (e_api_Answer x10.1)) [(some (.cells [(.acc 2 0 2 x10.2.length true)] false false)), none, (some (.cells (F_api_Pair x10.2) false true))] ∧ (2 ≤ 3 ∧ lfe (rx_osmosisref1_TableOf_L0 l) (.inl ((IntKind.i64.wrap (s7.1 + 1)), x10.2)) r))))) ∧ ((decide (s7.1 < (l.length : Int))) = false → lfe (rx_osmosisref1_TableOf_L0 l) (.inr s7.2) r)) := fun C => by kernel_rfl
  refine runS_of (fun _ _ h => by cases h) WB60_0_ok (Nat.le_of_ble_eq_true rfl) ((e _).mpr ?_)
  unfold osmosisref1_TableOf_L0_s at h
  refine ⟨fun hb => ?_, fun hb => ?_⟩
  · have h := cond_t hb h
    obtain ⟨q8, h⟩ := bget hx8 h
    refine ⟨wP_idx R_api_Pair q8, ?_⟩
    obtain ⟨q9, h⟩ := bget hx9 h
    refine ⟨wP_idx R_api_Pair q9, ?_⟩
    obtain ⟨q10, h⟩ := bget hx10 h
    refine ⟨s_osmosisref1_Table_Do_2 (d + 0) q10, ?_⟩
    refine ⟨by decide, ?_⟩
    exact lfe_of h
  · have h := cond_f hb h
    exact lfe_of h
theorem s_osmosisref1_TableOf_L0 (d : Nat) {l : List api_Pair} {s7 : Int × List api_Pair} {r : (List api_Pair)} (h : osmosisref1_TableOf_L0 l s7 = some r) : RunX (bloop (bexec (wcalls atab (d + 2)) KK 25 WB60_0) [0, 2, 3, 4] KK) 0 (inL [0, 2, 3, 4] (st_osmosisref1_TableOf_L0 l s7)) (fin_osmosisref1_TableOf_L0 l r) :=
  loop_of (st := st_osmosisref1_TableOf_L0 l) (fin := fin_osmosisref1_TableOf_L0 l) (step := osmosisref1_TableOf_L0_s l) (fun e => by (intro h; cases h)) (fun s x h => b_osmosisref1_TableOf_L0 d h) KK s7 r h

def osmosisref1_TableOf (l : List api_Pair) : Option (osmosisref1_Table) :=
  (osmosisref1_TableOf_L0 l (0, [])).bind fun (x11 : (List api_Pair)) => some (⟨x11⟩ : osmosisref1_Table)
def out_osmosisref1_TableOf (l : List api_Pair) (r : osmosisref1_Table) : AV × WH := ((.agg (e_osmosisref1_Table r)), [])

theorem s_osmosisref1_TableOf (d : Nat) {l : List api_Pair} {r : osmosisref1_Table} (h : osmosisref1_TableOf l = some r) : Spec (wcalls atab (d + 3)) 60 [(l_api_Pair l)] [] (out_osmosisref1_TableOf l r).1 (out_osmosisref1_TableOf l r).2 := by
  obtain ⟨x11, hx11⟩ := wx (osmosisref1_TableOf_L0 l (0, []))
  have e : ∀ C : ACalls, wBody C (fun _ => none) KK WF60 [(l_api_Pair l)] [] (.z 2 [.slice none 2 0 0 true] (.z 5 [.agg [.slice none 2 0 0 true]] (.z 3 [.slice none 2 0 0 true] (.st none (.lp [none, none, none, none] [(some true), (some true), (some true), (some true)] [.slice none 2 0 0 true, .undef, .undef, .undef] (.exit 0) [(2, (.ptr (some (0, 0)))), (3, (.ptr (some (1, 0))))] [(some (.cells [(.acc 2 0 2 0 true)] false false)), (some (.cells [(.acc 3 0 2 x11.length true)] false false)), (some (.cells (F_api_Pair []) false true)), (some (.cells (F_api_Pair x11) false true))] (.st none (.fin (some false) [.agg [.slice none 2 0 0 true]] none))))))) (out_osmosisref1_TableOf l r).1 (out_osmosisref1_TableOf l r).2 = (1 = 1 ∧ 1 ≤ 25 ∧ (RunS (bloop (bexec C KK 25 WB60_0) [0, 2, 3, 4] KK) 0 [(0, (l_api_Pair l)), (2, (.ptr (some (0, 0)))), (3, (.ptr (some (1, 0)))), (4, (.int .i64 0))] [(some (.cells [(.acc 2 0 2 0 true)] false false)), (some (.cells [(.acc 3 0 2 0 true)] false false)), (some (.cells (F_api_Pair []) false true)), (some (.cells (F_api_Pair []) false true))] (.exit 0) [(2, (.ptr (some (0, 0)))), (3, (.ptr (some (1, 0))))] [(some (.cells [(.acc 2 0 2 0 true)] false false)), (some (.cells [(.acc 3 0 2 x11.length true)] false false)), (some (.cells (F_api_Pair []) false true)), (some (.cells (F_api_Pair x11) false true))] ∧ lff (out_osmosisref1_TableOf l) (⟨x11⟩ : osmosisref1_Table) r)) := fun C => by kernel_rfl
  refine spec_of (fun _ _ h => by cases h) rfl atab_60 WF60_ok ((e _).mpr ⟨rfl, by decide, ?_⟩)
  unfold osmosisref1_TableOf at h
  obtain ⟨q11, h⟩ := bget hx11 h
  refine ⟨s_osmosisref1_TableOf_L0 (d + 0) q11, ?_⟩
  exact lff_of h

/- osmosis/osmosishand.Op -/
abbrev in_osmosishand_Op_J0 (x1 : Int) (x2 : List UInt8) (value : Int) (old : Int) : Fast × WH := ([(2, (.int .i64 value)), (3, (.int .i64 old)), (8, (.ptr (some (0, 0)))), (9, (.ptr (some (1, 0))))], [(some (.cells (e_api_Op (⟨0, ([] : List UInt8), ([] : List UInt8), ([] : List UInt8)⟩ : api_Op)) false false)), (some (.cells (e_api_Op (⟨(IntKind.i64.wrap (1 + x1)), x2, ([] : List UInt8), ([] : List UInt8)⟩ : api_Op)) false false))])
def fin_osmosishand_Op_J0 (x1 : Int) (x2 : List UInt8) (value : Int) (old : Int) : Bool → Ex × Fast × WH := fun e => (.normal, [(2, (.int .i64 value)), (3, (.int .i64 old)), (8, (.ptr (some (0, 0)))), (9, (.ptr (some (1, 0)))), (23, (.bool e))], [(some (.cells (e_api_Op (⟨0, ([] : List UInt8), ([] : List UInt8), ([] : List UInt8)⟩ : api_Op)) false false)), (some (.cells (e_api_Op (⟨(IntKind.i64.wrap (1 + x1)), x2, ([] : List UInt8), ([] : List UInt8)⟩ : api_Op)) false false))])
def osmosishand_Op_J0 (x1 : Int) (x2 : List UInt8) (value : Int) (old : Int) : Option (Bool) :=
  cond ((⟨(IntKind.i64.wrap (1 + x1)), x2, ([] : List UInt8), ([] : List UInt8)⟩ : api_Op).Kind == 2) (some true) (some ((⟨(IntKind.i64.wrap (1 + x1)), x2, ([] : List UInt8), ([] : List UInt8)⟩ : api_Op).Kind == 4))
theorem s_osmosishand_Op_J0 (d : Nat) {x1 : Int} {x2 : List UInt8} {value : Int} {old : Int} {r : Bool} (h : osmosishand_Op_J0 x1 x2 value old = some r) : RunX (bexec (wcalls atab (d + 0)) KK 34 WJ51_bbaa) 0 (in_osmosishand_Op_J0 x1 x2 value old) (fin_osmosishand_Op_J0 x1 x2 value old r) := by
  have e : ∀ C : ACalls, wCode C (fun _ => none) KK 34 0 WJ51_bbaa (in_osmosishand_Op_J0 x1 x2 value old).1 (in_osmosishand_Op_J0 x1 x2 value old).2 (.br 19 (.en [2, 3, 8, 9, 23] [none, none, none, none, none] [] []) (.en [2, 3, 8, 9, 23] [none, none, none, none, none] [] [])) (fin_osmosishand_Op_J0 x1 x2 value old r) = ((((⟨(IntKind.i64.wrap (1 + x1)), x2, ([] : List UInt8), ([] : List UInt8)⟩ : api_Op).Kind == 2) = true → lfe (fin_osmosishand_Op_J0 x1 x2 value old) true r) ∧ (((⟨(IntKind.i64.wrap (1 + x1)), x2, ([] : List UInt8), ([] : List UInt8)⟩ : api_Op).Kind == 2) = false → lfe (fin_osmosishand_Op_J0 x1 x2 value old) ((⟨(IntKind.i64.wrap (1 + x1)), x2, ([] : List UInt8), ([] : List UInt8)⟩ : api_Op).Kind == 4) r)) := fun C => by kernel_rfl
  refine runS_of (fun _ _ h => by cases h) WJ51_bbaa_ok (Nat.le_of_ble_eq_true rfl) ((e _).mpr ?_)
  unfold osmosishand_Op_J0 at h
  refine ⟨fun hb => ?_, fun hb => ?_⟩
  · have h := cond_t hb h
    exact lfe_of h
  · have h := cond_f hb h
    exact lfe_of h

abbrev in_osmosishand_Op_J1 (x1 : Int) (x2 : List UInt8) (value : Int) (old : Int) : Fast × WH := ([(2, (.int .i64 value)), (3, (.int .i64 old)), (8, (.ptr (some (0, 0)))), (9, (.ptr (some (1, 0))))], [(some (.cells (e_api_Op (⟨0, ([] : List UInt8), ([] : List UInt8), ([] : List UInt8)⟩ : api_Op)) false false)), (some (.cells (e_api_Op (⟨(IntKind.i64.wrap (1 + x1)), x2, ([] : List UInt8), ([] : List UInt8)⟩ : api_Op)) false false))])
def fin_osmosishand_Op_J1 (x1 : Int) (x2 : List UInt8) (value : Int) (old : Int) : api_Op → Ex × Fast × WH := fun e => (.normal, [(3, (.int .i64 old)), (8, (.ptr (some (0, 0)))), (9, (.ptr (some (1, 0))))], [(some (.cells (e_api_Op (⟨0, ([] : List UInt8), ([] : List UInt8), ([] : List UInt8)⟩ : api_Op)) false false)), (some (.cells (e_api_Op e) false false))])
def osmosishand_Op_J1 (x1 : Int) (x2 : List UInt8) (value : Int) (old : Int) : Option (api_Op) :=
  (osmosishand_Op_J0 x1 x2 value old).bind fun (x3 : Bool) => cond x3 ((osmosishand_Value value).bind fun (x4 : List UInt8) => some (⟨(⟨(IntKind.i64.wrap (1 + x1)), x2, ([] : List UInt8), ([] : List UInt8)⟩ : api_Op).Kind, (⟨(IntKind.i64.wrap (1 + x1)), x2, ([] : List UInt8), ([] : List UInt8)⟩ : api_Op).Key, x4, (⟨(IntKind.i64.wrap (1 + x1)), x2, ([] : List UInt8), ([] : List UInt8)⟩ : api_Op).Old⟩ : api_Op)) (some (⟨(IntKind.i64.wrap (1 + x1)), x2, ([] : List UInt8), ([] : List UInt8)⟩ : api_Op))
theorem s_osmosishand_Op_J1 (d : Nat) {x1 : Int} {x2 : List UInt8} {value : Int} {old : Int} {r : api_Op} (h : osmosishand_Op_J1 x1 x2 value old = some r) : RunX (bexec (wcalls atab (d + 2)) KK 34 WJ51_bba) 0 (in_osmosishand_Op_J1 x1 x2 value old) (fin_osmosishand_Op_J1 x1 x2 value old r) := by
  obtain ⟨x3, hx3⟩ := wx (osmosishand_Op_J0 x1 x2 value old)
  obtain ⟨x4, hx4⟩ := wx (osmosishand_Value value)
  have e : ∀ C : ACalls, wCode C (fun _ => none) KK 34 0 WJ51_bba (in_osmosishand_Op_J1 x1 x2 value old).1 (in_osmosishand_Op_J1 x1 x2 value old).2 (.jn [2, 3, 8, 9] [none, none, none, none] [] [] .normal [(2, (.int .i64 value)), (3, (.int .i64 old)), (8, (.ptr (some (0, 0)))), (9, (.ptr (some (1, 0)))), (23, (.bool x3))] [(some (.cells (e_api_Op (⟨0, ([] : List UInt8), ([] : List UInt8), ([] : List UInt8)⟩ : api_Op)) false false)), (some (.cells (e_api_Op (⟨(IntKind.i64.wrap (1 + x1)), x2, ([] : List UInt8), ([] : List UInt8)⟩ : api_Op)) false false))] (.br 23 (.cb [] [] (.str x4) (.st none (.en [3, 8, 9] [none, none, none] [] []))) (.en [3, 8, 9] [none, none, none] [] []))) (fin_osmosishand_Op_J1 x1 x2 value old r) = (RunS (bexec C KK 34 WJ51_bbaa) 0 [(2, (.int .i64 value)), (3, (.int .i64 old)), (8, (.ptr (some (0, 0)))), (9, (.ptr (some (1, 0))))] [(some (.cells (e_api_Op (⟨0, ([] : List UInt8), ([] : List UInt8), ([] : List UInt8)⟩ : api_Op)) false false)), (some (.cells (e_api_Op (⟨(IntKind.i64.wrap (1 + x1)), x2, ([] : List UInt8), ([] : List UInt8)⟩ : api_Op)) false false))] .normal [(2, (.int .i64 value)), (3, (.int .i64 old)), (8, (.ptr (some (0, 0)))), (9, (.ptr (some (1, 0)))), (23, (.bool x3))] [(some (.cells (e_api_Op (⟨0, ([] : List UInt8), ([] : List UInt8), ([] : List UInt8)⟩ : api_Op)) false false)), (some (.cells (e_api_Op (⟨(IntKind.i64.wrap (1 + x1)), x2, ([] : List UInt8), ([] : List UInt8)⟩ : api_Op)) false false))] ∧ ((x3 = true → (Spec C 59 [(.int .i64 value)] [] (.str x4) [] ∧ lfe (fin_osmosishand_Op_J1 x1 x2 value old) (⟨(⟨(IntKind.i64.wrap (1 + x1)), x2, ([] : List UInt8), ([] : List UInt8)⟩ : api_Op).Kind, (⟨(IntKind.i64.wrap (1 + x1)), x2, ([] : List UInt8), ([] : List UInt8)⟩ : api_Op).Key, x4, (⟨(IntKind.i64.wrap (1 + x1)), x2, ([] : List UInt8), ([] : List UInt8)⟩ : api_Op).Old⟩ : api_Op) r)) ∧ (x3 = false → lfe (fin_osmosishand_Op_J1 x1 x2 value old) (⟨(IntKind.i64.wrap (1 + x1)), x2, ([] : List UInt8), ([] : List UInt8)⟩ : api_Op) r))) := fun C => by kernel_rfl
  refine runS_of (fun _ _ h => by cases h) WJ51_bba_ok (Nat.le_of_ble_eq_true rfl) ((e _).mpr ?_)
  unfold osmosishand_Op_J1 at h
  obtain ⟨q3, h⟩ := bget hx3 h
  refine ⟨s_osmosishand_Op_J0 (d + 2) q3, ?_⟩
  refine ⟨fun hb => ?_, fun hb => ?_⟩
  · have h := cond_t hb h
    obtain ⟨q4, h⟩ := bget hx4 h
    refine ⟨s_osmosishand_Value (d + 0) q4, ?_⟩
    exact lfe_of h
  · have h := cond_f hb h
    exact lfe_of h

def osmosishand_Op (kind : Int) (key : Int) (value : Int) (old : Int) : Option (api_Op) :=
  (osmosishand_Pick kind 4).bind fun (x1 : Int) => (osmosishand_Key key).bind fun (x2 : List UInt8) => (osmosishand_Op_J1 x1 x2 value old).bind fun (x5 : api_Op) => cond (x5.Kind == 4) ((osmosishand_Value old).bind fun (x6 : List UInt8) => some (⟨x5.Kind, x5.Key, x5.Value, x6⟩ : api_Op)) (some x5)
def out_osmosishand_Op (kind : Int) (key : Int) (value : Int) (old : Int) (r : api_Op) : AV × WH := ((.agg (e_api_Op r)), [])

theorem s_osmosishand_Op (d : Nat) {kind : Int} {key : Int} {value : Int} {old : Int} {r : api_Op} (h : osmosishand_Op kind key value old = some r) : Spec (wcalls atab (d + 3)) 51 [(.int .i64 kind), (.int .i64 key), (.int .i64 value), (.int .i64 old)] [] (out_osmosishand_Op kind key value old r).1 (out_osmosishand_Op kind key value old r).2 := by
  obtain ⟨x1, hx1⟩ := wx (osmosishand_Pick kind 4)
  obtain ⟨x2, hx2⟩ := wx (osmosishand_Key key)
  obtain ⟨x5, hx5⟩ := wx (osmosishand_Op_J1 x1 x2 value old)
  obtain ⟨x6, hx6⟩ := wx (osmosishand_Value old)
  have e : ∀ C : ACalls, wBody C (fun _ => none) KK WF51 [(.int .i64 kind), (.int .i64 key), (.int .i64 value), (.int .i64 old)] [] (.cb [] [] (.int .i64 x1) (.cb [] [] (.str x2) (.st none (.jn [2, 3, 8, 9] [none, none, none, none] [] [] .normal [(3, (.int .i64 old)), (8, (.ptr (some (0, 0)))), (9, (.ptr (some (1, 0))))] [(some (.cells (e_api_Op (⟨0, ([] : List UInt8), ([] : List UInt8), ([] : List UInt8)⟩ : api_Op)) false false)), (some (.cells (e_api_Op x5) false false))] (.br 29 (.cb [] [] (.str x6) (.st none (.st none (.fin (some false) [] none)))) (.st none (.fin (some false) [] none))))))) (out_osmosishand_Op kind key value old r).1 (out_osmosishand_Op kind key value old r).2 = (4 = 4 ∧ 4 ≤ 34 ∧ (Spec C 28 [(.int .i64 kind), (.int .i64 4)] [] (.int .i64 x1) [] ∧ (Spec C 58 [(.int .i64 key)] [] (.str x2) [] ∧ (RunS (bexec C KK 34 WJ51_bba) 0 [(2, (.int .i64 value)), (3, (.int .i64 old)), (8, (.ptr (some (0, 0)))), (9, (.ptr (some (1, 0))))] [(some (.cells (e_api_Op (⟨0, ([] : List UInt8), ([] : List UInt8), ([] : List UInt8)⟩ : api_Op)) false false)), (some (.cells (e_api_Op (⟨(IntKind.i64.wrap (1 + x1)), x2, ([] : List UInt8), ([] : List UInt8)⟩ : api_Op)) false false))] .normal [(3, (.int .i64 old)), (8, (.ptr (some (0, 0)))), (9, (.ptr (some (1, 0))))] [(some (.cells (e_api_Op (⟨0, ([] : List UInt8), ([] : List UInt8), ([] : List UInt8)⟩ : api_Op)) false false)), (some (.cells (e_api_Op x5) false false))] ∧ (((x5.Kind == 4) = true → (Spec C 59 [(.int .i64 old)] [] (.str x6) [] ∧ lff (out_osmosishand_Op kind key value old) (⟨x5.Kind, x5.Key, x5.Value, x6⟩ : api_Op) r)) ∧ ((x5.Kind == 4) = false → lff (out_osmosishand_Op kind key value old) x5 r)))))) := fun C => by kernel_rfl
  refine spec_of (fun _ _ h => by cases h) rfl atab_51 WF51_ok ((e _).mpr ⟨rfl, by decide, ?_⟩)
  unfold osmosishand_Op at h
  obtain ⟨q1, h⟩ := bget hx1 h
  refine ⟨s_osmosishand_Pick (d + 1) q1, ?_⟩
  obtain ⟨q2, h⟩ := bget hx2 h
  refine ⟨s_osmosishand_Key (d + 0) q2, ?_⟩
  obtain ⟨q5, h⟩ := bget hx5 h
  refine ⟨s_osmosishand_Op_J1 (d + 0) q5, ?_⟩
  refine ⟨fun hb => ?_, fun hb => ?_⟩
  · have h := cond_t hb h
    obtain ⟨q6, h⟩ := bget hx6 h
    refine ⟨s_osmosishand_Value (d + 0) q6, ?_⟩
    exact lff_of h
  · have h := cond_f hb h
    exact lff_of h

/- osmosis/osmosishand.Text -/
def osmosishand_Text (p_s : List UInt8) (n : Int) : Option (List UInt8) :=
  cond (decide ((p_s.length : Int) > n)) ((slI p_s 0 n).bind fun (x1 : List UInt8) => some x1) (some p_s)
def out_osmosishand_Text (p_s : List UInt8) (n : Int) (r : List UInt8) : AV × WH := ((.str r), [])

theorem s_osmosishand_Text (d : Nat) {p_s : List UInt8} {n : Int} {r : List UInt8} (h : osmosishand_Text p_s n = some r) : Spec (wcalls atab (d + 1)) 102 [(.str p_s), (.int .i64 n)] [] (out_osmosishand_Text p_s n r).1 (out_osmosishand_Text p_s n r).2 := by
  obtain ⟨x1, hx1⟩ := wx (slI p_s 0 n)
  have e : ∀ C : ACalls, wBody C (fun _ => none) KK WF102 [(.str p_s), (.int .i64 n)] [] (.br 8 (.v 11 (.str x1) (.fin (some false) [] none)) (.fin (some false) [] none)) (out_osmosishand_Text p_s n r).1 (out_osmosishand_Text p_s n r).2 = (2 = 2 ∧ 2 ≤ 13 ∧ (((decide ((p_s.length : Int) > n)) = true → (wP (.sliceStr (.c (.str p_s)) none (some (.c (.int .i64 n)))) = some (.str x1) ∧ lff (out_osmosishand_Text p_s n) x1 r)) ∧ ((decide ((p_s.length : Int) > n)) = false → lff (out_osmosishand_Text p_s n) p_s r))) := fun C => by kernel_rfl
  refine spec_of (fun _ _ h => by cases h) rfl atab_102 WF102_ok ((e _).mpr ⟨rfl, by decide, ?_⟩)
  unfold osmosishand_Text at h
  refine ⟨fun hb => ?_, fun hb => ?_⟩
  · have h := cond_t hb h
    obtain ⟨q1, h⟩ := bget hx1 h
    refine ⟨wP_slS_h q1, ?_⟩
    exact lff_of h
  · have h := cond_f hb h
    exact lff_of h

/- osmosis/osmosishand.Num -/
abbrev in_osmosishand_Num_J0 (x1 : Int) (n : Int) : Fast × WH := ([(0, (.int .i64 n)), (4, (.int .i64 x1))], [])
def fin_osmosishand_Num_J0 (x1 : Int) (n : Int) : Bool → Ex × Fast × WH := fun e => (.normal, [(0, (.int .i64 n)), (4, (.int .i64 x1)), (5, (.bool e))], [])
def osmosishand_Num_J0 (x1 : Int) (n : Int) : Option (Bool) :=
  cond (x1 == 0) (some true) (cond (x1 == 1) (some true) (some (x1 == 2)))
theorem s_osmosishand_Num_J0 (d : Nat) {x1 : Int} {n : Int} {r : Bool} (h : osmosishand_Num_J0 x1 n = some r) : RunX (bexec (wcalls atab (d + 0)) KK 35 WJ103_babka) 0 (in_osmosishand_Num_J0 x1 n) (fin_osmosishand_Num_J0 x1 n r) := by
  have e : ∀ C : ACalls, wCode C (fun _ => none) KK 35 0 WJ103_babka (in_osmosishand_Num_J0 x1 n).1 (in_osmosishand_Num_J0 x1 n).2 (.br 5 (.en [0, 4, 5] [none, none, none] [] []) (.br 5 (.en [0, 4, 5] [none, none, none] [] []) (.en [0, 4, 5] [none, none, none] [] []))) (fin_osmosishand_Num_J0 x1 n r) = (((x1 == 0) = true → lfe (fin_osmosishand_Num_J0 x1 n) true r) ∧ ((x1 == 0) = false → (((x1 == 1) = true → lfe (fin_osmosishand_Num_J0 x1 n) true r) ∧ ((x1 == 1) = false → lfe (fin_osmosishand_Num_J0 x1 n) (x1 == 2) r)))) := fun C => by kernel_rfl
  refine runS_of (fun _ _ h => by cases h) WJ103_babka_ok (Nat.le_of_ble_eq_true rfl) ((e _).mpr ?_)
  unfold osmosishand_Num_J0 at h
  refine ⟨fun hb => ?_, fun hb => ?_⟩
  · have h := cond_t hb h
    exact lfe_of h
  · have h := cond_f hb h
    refine ⟨fun hb => ?_, fun hb => ?_⟩
    · have h := cond_t hb h
      exact lfe_of h
    · have h := cond_f hb h
      exact lfe_of h

def osmosishand_Num (n : Int) : Option (Int) :=
  (osmosishand_Pick n 7).bind fun (x1 : Int) => (osmosishand_Num_J0 x1 n).bind fun (x2 : Bool) => cond x2 ((osmosishand_Pick (IntKind.i64.wrap (Int.tdiv n 7)) 40).bind fun (x3 : Int) => some x3) (cond (x1 == 3) ((osmosishand_Pick (IntKind.i64.wrap (Int.tdiv n 7)) 63).bind fun (x4 : Int) => (shlI .i64 1 (IntKind.u64.wrap x4)).bind fun (x5 : Int) => (osmosishand_Pick (IntKind.i64.wrap (Int.tdiv n 441)) 3).bind fun (x6 : Int) => some (IntKind.i64.wrap (x5 - x6))) (cond (x1 == 4) ((osmosishand_Pick (IntKind.i64.wrap (Int.tdiv n 7)) 3).bind fun (x7 : Int) => some (IntKind.i64.wrap (4611686018427387903 - x7))) (cond (x1 == 5) ((osmosishand_Pick (IntKind.i64.wrap (Int.tdiv n 7)) 1000).bind fun (x8 : Int) => some x8) (some n))))
def out_osmosishand_Num (n : Int) (r : Int) : AV × WH := ((.int .i64 r), [])

theorem s_osmosishand_Num (d : Nat) {n : Int} {r : Int} (h : osmosishand_Num n = some r) : Spec (wcalls atab (d + 2)) 103 [(.int .i64 n)] [] (out_osmosishand_Num n r).1 (out_osmosishand_Num n r).2 := by
  obtain ⟨x1, hx1⟩ := wx (osmosishand_Pick n 7)
  obtain ⟨x2, hx2⟩ := wx (osmosishand_Num_J0 x1 n)
  obtain ⟨x3, hx3⟩ := wx (osmosishand_Pick (IntKind.i64.wrap (Int.tdiv n 7)) 40)
  obtain ⟨x4, hx4⟩ := wx (osmosishand_Pick (IntKind.i64.wrap (Int.tdiv n 7)) 63)
  obtain ⟨x5, hx5⟩ := wx (shlI .i64 1 (IntKind.u64.wrap x4))
  obtain ⟨x6, hx6⟩ := wx (osmosishand_Pick (IntKind.i64.wrap (Int.tdiv n 441)) 3)
  obtain ⟨x7, hx7⟩ := wx (osmosishand_Pick (IntKind.i64.wrap (Int.tdiv n 7)) 3)
  obtain ⟨x8, hx8⟩ := wx (osmosishand_Pick (IntKind.i64.wrap (Int.tdiv n 7)) 1000)
  have e : ∀ C : ACalls, wBody C (fun _ => none) KK WF103 [(.int .i64 n)] [] (.cb [] [] (.int .i64 x1) (.jn [0, 4] [none, none] [] [] .normal [(0, (.int .i64 n)), (4, (.int .i64 x1)), (5, (.bool x2))] [] (.br 5 (.cb [] [] (.int .i64 x3) (.fin (some false) [] none)) (.br 12 (.cb [] [] (.int .i64 x4) (.v 18 (.int .i64 x5) (.cb [] [] (.int .i64 x6) (.fin (some false) [] none)))) (.br 23 (.cb [] [] (.int .i64 x7) (.fin (some false) [] none)) (.br 29 (.cb [] [] (.int .i64 x8) (.fin (some false) [] none)) (.fin (some false) [] none))))))) (out_osmosishand_Num n r).1 (out_osmosishand_Num n r).2 = (1 = 1 ∧ 1 ≤ 35 ∧ (Spec C 28 [(.int .i64 n), (.int .i64 7)] [] (.int .i64 x1) [] ∧ (RunS (bexec C KK 35 WJ103_babka) 0 [(0, (.int .i64 n)), (4, (.int .i64 x1))] [] .normal [(0, (.int .i64 n)), (4, (.int .i64 x1)), (5, (.bool x2))] [] ∧ ((x2 = true → (Spec C 28 [(.int .i64 (IntKind.i64.wrap (Int.tdiv n 7))), (.int .i64 40)] [] (.int .i64 x3) [] ∧ lff (out_osmosishand_Num n) x3 r)) ∧ (x2 = false → (((x1 == 3) = true → (Spec C 28 [(.int .i64 (IntKind.i64.wrap (Int.tdiv n 7))), (.int .i64 63)] [] (.int .i64 x4) [] ∧ (aBin .shl (.int .i64 1) (.int .u64 (IntKind.u64.wrap x4)) = some (.int .i64 x5) ∧ (Spec C 28 [(.int .i64 (IntKind.i64.wrap (Int.tdiv n 441))), (.int .i64 3)] [] (.int .i64 x6) [] ∧ lff (out_osmosishand_Num n) (IntKind.i64.wrap (x5 - x6)) r)))) ∧ ((x1 == 3) = false → (((x1 == 4) = true → (Spec C 28 [(.int .i64 (IntKind.i64.wrap (Int.tdiv n 7))), (.int .i64 3)] [] (.int .i64 x7) [] ∧ lff (out_osmosishand_Num n) (IntKind.i64.wrap (4611686018427387903 - x7)) r)) ∧ ((x1 == 4) = false → (((x1 == 5) = true → (Spec C 28 [(.int .i64 (IntKind.i64.wrap (Int.tdiv n 7))), (.int .i64 1000)] [] (.int .i64 x8) [] ∧ lff (out_osmosishand_Num n) x8 r)) ∧ ((x1 == 5) = false → lff (out_osmosishand_Num n) n r))))))))))) := fun C => by kernel_rfl
  refine spec_of (fun _ _ h => by cases h) rfl atab_103 WF103_ok ((e _).mpr ⟨rfl, by decide, ?_⟩)
  unfold osmosishand_Num at h
  obtain ⟨q1, h⟩ := bget hx1 h
  refine ⟨s_osmosishand_Pick (d + 0) q1, ?_⟩
  obtain ⟨q2, h⟩ := bget hx2 h
  refine ⟨s_osmosishand_Num_J0 (d + 1) q2, ?_⟩
  refine ⟨fun hb => ?_, fun hb => ?_⟩
  · have h := cond_t hb h
    obtain ⟨q3, h⟩ := bget hx3 h
    refine ⟨s_osmosishand_Pick (d + 0) q3, ?_⟩
    exact lff_of h
  · have h := cond_f hb h
    refine ⟨fun hb => ?_, fun hb => ?_⟩
    · have h := cond_t hb h
      obtain ⟨q4, h⟩ := bget hx4 h
      refine ⟨s_osmosishand_Pick (d + 0) q4, ?_⟩
      obtain ⟨q5, h⟩ := bget hx5 h
      refine ⟨wP_shl q5, ?_⟩
      obtain ⟨q6, h⟩ := bget hx6 h
      refine ⟨s_osmosishand_Pick (d + 0) q6, ?_⟩
      exact lff_of h
    · have h := cond_f hb h
      refine ⟨fun hb => ?_, fun hb => ?_⟩
      · have h := cond_t hb h
        obtain ⟨q7, h⟩ := bget hx7 h
        refine ⟨s_osmosishand_Pick (d + 0) q7, ?_⟩
        exact lff_of h
      · have h := cond_f hb h
        refine ⟨fun hb => ?_, fun hb => ?_⟩
        · have h := cond_t hb h
          obtain ⟨q8, h⟩ := bget hx8 h
          refine ⟨s_osmosishand_Pick (d + 0) q8, ?_⟩
          exact lff_of h
        · have h := cond_f hb h
          exact lff_of h

/- osmosis/osmosishand.Req -/
def osmosishand_Req (p_x : osmosishand_RawOp) : Option (api_Req) :=
  (osmosishand_Pick p_x.Client 4).bind fun (x1 : Int) => (osmosishand_Pick p_x.Seq 9).bind fun (x2 : Int) => (osmosishand_Op p_x.Kind p_x.Key p_x.Value p_x.Old).bind fun (x3 : api_Op) => (osmosishand_Pick p_x.Bend 16).bind fun (x4 : Int) => cond (x4 == 10) ((osmosishand_Text p_x.Text 12).bind fun (x5 : List UInt8) => some (⟨x1, (IntKind.i64.wrap (1 + x2)), (⟨x3.Kind, x5, x3.Value, x3.Old⟩ : api_Op)⟩ : api_Req)) (cond (x4 == 11) ((osmosishand_Text p_x.Text 20).bind fun (x6 : List UInt8) => some (⟨x1, (IntKind.i64.wrap (1 + x2)), (⟨x3.Kind, x3.Key, x6, x3.Old⟩ : api_Op)⟩ : api_Req)) (cond (x4 == 12) ((osmosishand_Pick (IntKind.i64.wrap (Int.tdiv p_x.Bend 16)) 8).bind fun (x7 : Int) => some (⟨x1, (IntKind.i64.wrap (1 + x2)), (⟨(IntKind.i64.wrap (x7 - 1)), x3.Key, x3.Value, x3.Old⟩ : api_Op)⟩ : api_Req)) (cond (x4 == 13) ((osmosishand_Pick (IntKind.i64.wrap (Int.tdiv p_x.Bend 16)) 9).bind fun (x8 : Int) => some (⟨(IntKind.i64.wrap (x8 - 2)), (IntKind.i64.wrap (1 + x2)), x3⟩ : api_Req)) (cond (x4 == 14) ((osmosishand_Num (IntKind.i64.wrap (Int.tdiv p_x.Bend 16))).bind fun (x9 : Int) => some (⟨x1, x9, x3⟩ : api_Req)) (cond (x4 == 15) (some (⟨0, 0, (⟨0, ([] : List UInt8), ([] : List UInt8), ([] : List UInt8)⟩ : api_Op)⟩ : api_Req)) (some (⟨x1, (IntKind.i64.wrap (1 + x2)), x3⟩ : api_Req)))))))
def out_osmosishand_Req (p_x : osmosishand_RawOp) (r : api_Req) : AV × WH := ((.agg (e_api_Req r)), [])

theorem s_osmosishand_Req (d : Nat) {p_x : osmosishand_RawOp} {r : api_Req} (h : osmosishand_Req p_x = some r) : Spec (wcalls atab (d + 4)) 61 [(.agg (e_osmosishand_RawOp p_x))] [] (out_osmosishand_Req p_x r).1 (out_osmosishand_Req p_x r).2 := by
  obtain ⟨x1, hx1⟩ := wx (osmosishand_Pick p_x.Client 4)
  obtain ⟨x2, hx2⟩ := wx (osmosishand_Pick p_x.Seq 9)
  obtain ⟨x3, hx3⟩ := wx (osmosishand_Op p_x.Kind p_x.Key p_x.Value p_x.Old)
  obtain ⟨x4, hx4⟩ := wx (osmosishand_Pick p_x.Bend 16)
  obtain ⟨x5, hx5⟩ := wx (osmosishand_Text p_x.Text 12)
  obtain ⟨x6, hx6⟩ := wx (osmosishand_Text p_x.Text 20)
  obtain ⟨x7, hx7⟩ := wx (osmosishand_Pick (IntKind.i64.wrap (Int.tdiv p_x.Bend 16)) 8)
  obtain ⟨x8, hx8⟩ := wx (osmosishand_Pick (IntKind.i64.wrap (Int.tdiv p_x.Bend 16)) 9)
  obtain ⟨x9, hx9⟩ := wx (osmosishand_Num (IntKind.i64.wrap (Int.tdiv p_x.Bend 16)))
  have e : ∀ C : ACalls, wBody C (fun _ => none) KK WF61 [(.agg (e_osmosishand_RawOp p_x))] [] (.cb [] [] (.int .i64 x1) (.cb [] [] (.int .i64 x2) (.cb [] [] (.agg (e_api_Op x3)) (.st none (.cb [] [] (.int .i64 x4) (.br 24 (.cb [] [] (.str x5) (.st none (.st none (.fin (some false) [] none)))) (.br 31 (.cb [] [] (.str x6) (.st none (.st none (.fin (some false) [] none)))) (.br 38 (.cb [] [] (.int .i64 x7) (.st none (.st none (.fin (some false) [] none)))) (.br 47 (.cb [] [] (.int .i64 x8) (.st none (.st none (.fin (some false) [] none)))) (.br 55 (.cb [] [] (.int .i64 x9) (.st none (.st none (.fin (some false) [] none)))) (.br 62 (.st none (.st none (.fin (some false) [] none))) (.st none (.fin (some false) [] none))))))))))))) (out_osmosishand_Req p_x r).1 (out_osmosishand_Req p_x r).2 = (1 = 1 ∧ 1 ≤ 66 ∧ (Spec C 28 [(.int .i64 p_x.Client), (.int .i64 4)] [] (.int .i64 x1) [] ∧ (Spec C 28 [(.int .i64 p_x.Seq), (.int .i64 9)] [] (.int .i64 x2) [] ∧ (Spec C 51 [(.int .i64 p_x.Kind), (.int .i64 p_x.Key), (.int .i64 p_x.Value), (.int .i64 p_x.Old)] [] (.agg (e_api_Op x3)) [] ∧ (Spec C 28 [(.int .i64 p_x.Bend), (.int .i64 16)] [] (.int .i64 x4) [] ∧ (((x4 == 10) = true → (Spec C 102 [(.str p_x.Text), (.int .i64 12)] [] (.str x5) [] ∧ (@Eq AV (.agg (e_api_Req (⟨x1, (IntKind.i64.wrap (1 + x2)), (⟨x3.Kind, x5, x3.Value, x3.Old⟩ : api_Op)⟩ : api_Req))) (out_osmosishand_Req p_x r).1 ∧ @Eq WH [] (out_osmosishand_Req p_x r).2))) ∧ ((x4 == 10) = false → (((x4 == 11) = true → (Spec C 102 [(.str p_x.Text), (.int .i64 20)] [] (.str x6) [] ∧ (@Eq AV (.agg (e_api_Req (⟨x1, (IntKind.i64.wrap (1 + x2)), (⟨x3.Kind, x3.Key, x6, x3.Old⟩ : api_Op)⟩ : api_Req))) (out_osmosishand_Req p_x r).1 ∧ @Eq WH [] (out_osmosishand_Req p_x r).2))) ∧ ((x4 == 11) = false → (((x4 == 12) = true → (Spec C 28 [(.int .i64 (IntKind.i64.wrap (Int.tdiv p_x.Bend 16))), (.int .i64 8)] [] (.int .i64 x7) [] ∧ (@Eq AV (.agg (e_api_Req (⟨x1, (IntKind.i64.wrap (1 + x2)), (⟨(IntKind.i64.wrap (x7 - 1)), x3.Key, x3.Value, x3.Old⟩ : api_Op)⟩ : api_Req))) (out_osmosishand_Req p_x r).1 ∧ @Eq WH [] (out_osmosishand_Req p_x r).2))) ∧ ((x4 == 12) = false → (((x4 == 13) = true → (Spec C 28 [(.int .i64 (IntKind.i64.wrap (Int.tdiv p_x.Bend 16))), (.int .i64 9)] [] (.int .i64 x8) [] ∧ (@Eq AV (.agg (e_api_Req (⟨(IntKind.i64.wrap (x8 - 2)), (IntKind.i64.wrap (1 + x2)), x3⟩ : api_Req))) (out_osmosishand_Req p_x r).1 ∧ @Eq WH [] (out_osmosishand_Req p_x r).2))) ∧ ((x4 == 13) = false → (((x4 == 14) = true → (Spec C 103 [(.int .i64 (IntKind.i64.wrap (Int.tdiv p_x.Bend 16)))] [] (.int .i64 x9) [] ∧ (@Eq AV (.agg (e_api_Req (⟨x1, x9, x3⟩ : api_Req))) (out_osmosishand_Req p_x r).1 ∧ @Eq WH [] (out_osmosishand_Req p_x r).2))) ∧ ((x4 == 14) = false → (((x4 == 15) = true → (@Eq AV (.agg (e_api_Req (⟨0, 0, (⟨0, ([] : List UInt8), ([] : List UInt8), ([] : List UInt8)⟩ : api_Op)⟩ : api_Req))) (out_osmosishand_Req p_x r).1 ∧ @Eq WH [] (out_osmosishand_Req p_x r).2)) ∧ ((x4 == 15) = false → (@Eq AV (.agg (e_api_Req (⟨x1, (IntKind.i64.wrap (1 + x2)), x3⟩ : api_Req))) (out_osmosishand_Req p_x r).1 ∧ @Eq WH [] (out_osmosishand_Req p_x r).2)))))))))))))))))) := fun C => by kernel_rfl
  refine spec_of (fun _ _ h => by cases h) rfl atab_61 WF61_ok ((e _).mpr ⟨rfl, by decide, ?_⟩)
  unfold osmosishand_Req at h
  obtain ⟨q1, h⟩ := bget hx1 h
  refine ⟨s_osmosishand_Pick (d + 2) q1, ?_⟩
  obtain ⟨q2, h⟩ := bget hx2 h
  refine ⟨s_osmosishand_Pick (d + 2) q2, ?_⟩
  obtain ⟨q3, h⟩ := bget hx3 h
  refine ⟨s_osmosishand_Op (d + 0) q3, ?_⟩
  obtain ⟨q4, h⟩ := bget hx4 h
  refine ⟨s_osmosishand_Pick (d + 2) q4, ?_⟩
  refine ⟨fun hb => ?_, fun hb => ?_⟩
  · have h := cond_t hb h
    obtain ⟨q5, h⟩ := bget hx5 h
    refine ⟨s_osmosishand_Text (d + 2) q5, ?_⟩
    obtain rfl := Option.some.inj h
    refine ⟨?_, ?_⟩ <;> first | rfl | (simp only [out_osmosishand_Req, List.length_set, List.length_append, List.length_replicate, List.length_cons, List.length_nil, List.length_take, List.length_drop, Nat.add_zero, Nat.zero_add]; done) | simp [out_osmosishand_Req]
  · have h := cond_f hb h
    refine ⟨fun hb => ?_, fun hb => ?_⟩
    · have h := cond_t hb h
      obtain ⟨q6, h⟩ := bget hx6 h
      refine ⟨s_osmosishand_Text (d + 2) q6, ?_⟩
      obtain rfl := Option.some.inj h
      refine ⟨?_, ?_⟩ <;> first | rfl | (simp only [out_osmosishand_Req, List.length_set, List.length_append, List.length_replicate, List.length_cons, List.length_nil, List.length_take, List.length_drop, Nat.add_zero, Nat.zero_add]; done) | simp [out_osmosishand_Req]
    · have h := cond_f hb h
      refine ⟨fun hb => ?_, fun hb => ?_⟩
      · have h := cond_t hb h
        obtain ⟨q7, h⟩ := bget hx7 h
        refine ⟨s_osmosishand_Pick (d + 2) q7, ?_⟩
        obtain rfl := Option.some.inj h
        refine ⟨?_, ?_⟩ <;> first | rfl | (simp only [out_osmosishand_Req, List.length_set, List.length_append, List.length_replicate, List.length_cons, List.length_nil, List.length_take, List.length_drop, Nat.add_zero, Nat.zero_add]; done) | simp [out_osmosishand_Req]
      · have h := cond_f hb h
        refine ⟨fun hb => ?_, fun hb => ?_⟩
        · have h := cond_t hb h
          obtain ⟨q8, h⟩ := bget hx8 h
          refine ⟨s_osmosishand_Pick (d + 2) q8, ?_⟩
          obtain rfl := Option.some.inj h
          refine ⟨?_, ?_⟩ <;> first | rfl | (simp only [out_osmosishand_Req, List.length_set, List.length_append, List.length_replicate, List.length_cons, List.length_nil, List.length_take, List.length_drop, Nat.add_zero, Nat.zero_add]; done) | simp [out_osmosishand_Req]
        · have h := cond_f hb h
          refine ⟨fun hb => ?_, fun hb => ?_⟩
          · have h := cond_t hb h
            obtain ⟨q9, h⟩ := bget hx9 h
            refine ⟨s_osmosishand_Num (d + 1) q9, ?_⟩
            obtain rfl := Option.some.inj h
            refine ⟨?_, ?_⟩ <;> first | rfl | (simp only [out_osmosishand_Req, List.length_set, List.length_append, List.length_replicate, List.length_cons, List.length_nil, List.length_take, List.length_drop, Nat.add_zero, Nat.zero_add]; done) | simp [out_osmosishand_Req]
          · have h := cond_f hb h
            refine ⟨fun hb => ?_, fun hb => ?_⟩
            · have h := cond_t hb h
              obtain rfl := Option.some.inj h
              refine ⟨?_, ?_⟩ <;> first | rfl | (simp only [out_osmosishand_Req, List.length_set, List.length_append, List.length_replicate, List.length_cons, List.length_nil, List.length_take, List.length_drop, Nat.add_zero, Nat.zero_add]; done) | simp [out_osmosishand_Req]
            · have h := cond_f hb h
              obtain rfl := Option.some.inj h
              refine ⟨?_, ?_⟩ <;> first | rfl | (simp only [out_osmosishand_Req, List.length_set, List.length_append, List.length_replicate, List.length_cons, List.length_nil, List.length_take, List.length_drop, Nat.add_zero, Nat.zero_add]; done) | simp [out_osmosishand_Req]

/- (*osmosis/osmosisref1.Table).find -/
def st_osmosisref1_Table_find_3_L0 (t : osmosisref1_Table) (key : List UInt8) (s3 : Int) : List AV × WH := ([(.ptr (some (0, 0))), (.str key), (.int .i64 s3)], [(some (.cells (e_osmosisref1_Table t) false false))])
def fin_osmosisref1_Table_find_3_L0 (t : osmosisref1_Table) (key : List UInt8) : (Int × Bool) ⊕ Unit → Ex × Fast × WH := fun
  | .inl e => (.ret, [(4, (.int .i64 e.1)), (5, (.bool e.2))], [(some (.cells (e_osmosisref1_Table t) false false))])
  | .inr e => ((.exit 0), [(0, (.ptr (some (0, 0))))], [(some (.cells (e_osmosisref1_Table t) false false))])
abbrev rx_osmosisref1_Table_find_3_L0 (t : osmosisref1_Table) (key : List UInt8) := roundX [0, 1, 6] (st_osmosisref1_Table_find_3_L0 t key) (fin_osmosisref1_Table_find_3_L0 t key)
def osmosisref1_Table_find_3_L0_s (t : osmosisref1_Table) (key : List UInt8) (s3 : Int) : Option ((Int) ⊕ ((Int × Bool) ⊕ Unit)) :=
  cond (decide (s3 < (t.L.length : Int))) ((getI t.L s3).bind fun (x4 : api_Pair) => cond (!(Op.bytesLess x4.Key key)) ((getI t.L s3).bind fun (x5 : api_Pair) => some (.inr (.inl (s3, (x5.Key == key))))) (some (.inl (IntKind.i64.wrap (s3 + 1))))) (some (.inr (.inr ())))
def osmosisref1_Table_find_3_L0 (t : osmosisref1_Table) (key : List UInt8) (s3 : Int) : Option ((Int × Bool) ⊕ Unit) := loopX (osmosisref1_Table_find_3_L0_s t key) KK s3
theorem b_osmosisref1_Table_find_3_L0 (d : Nat) {t : osmosisref1_Table} {key : List UInt8} {s3 : Int} {r : (Int) ⊕ ((Int × Bool) ⊕ Unit)} (h : osmosisref1_Table_find_3_L0_s t key s3 = some r) : RunX (bexec (wcalls atab (d + 0)) KK 42 WB104_0) 1 (inL [0, 1, 6] (st_osmosisref1_Table_find_3_L0 t key s3)) (rx_osmosisref1_Table_find_3_L0 t key r) := by
  obtain ⟨x4, hx4⟩ := wx (getI t.L s3)
  obtain ⟨x5, hx5⟩ := wx (getI t.L s3)
  have e : ∀ C : ACalls, wCode C (fun _ => none) KK 42 1 WB104_0 (inL [0, 1, 6] (st_osmosisref1_Table_find_3_L0 t key s3)).1 (inL [0, 1, 6] (st_osmosisref1_Table_find_3_L0 t key s3)).2 (.br 13 (.v 21 (.elem ((e_api_Pair x4) ++ F_api_Pair (t.L.drop (s3.toNat + 1)))) (.br 25 (.v 32 (.elem ((e_api_Pair x5) ++ F_api_Pair (t.L.drop (s3.toNat + 1)))) (.en [4, 5] [none, none] [] [])) (.en [0, 1, 6] [none, none, none] [] []))) (.en [0] [none] [] [])) (rx_osmosisref1_Table_find_3_L0 t key r) = (((decide (s3 < (t.L.length : Int))) = true → (wP (.idxSlice 2 (.c (l_api_Pair t.L)) (.c (.int .i64 s3))) = some (.elem ((e_api_Pair x4) ++ F_api_Pair (t.L.drop (s3.toNat + 1)))) ∧ (((!(Op.bytesLess x4.Key key)) = true → (wP (.idxSlice 2 (.c (l_api_Pair t.L)) (.c (.int .i64 s3))) = some (.elem ((e_api_Pair x5) ++ F_api_Pair (t.L.drop (s3.toNat + 1)))) ∧ lfe (rx_osmosisref1_Table_find_3_L0 t key) (.inr (.inl (s3, (x5.Key == key)))) r)) ∧ ((!(Op.bytesLess x4.Key key)) = false → lfe (rx_osmosisref1_Table_find_3_L0 t key) (.inl (IntKind.i64.wrap (s3 + 1))) r)))) ∧ ((decide (s3 < (t.L.length : Int))) = false → lfe (rx_osmosisref1_Table_find_3_L0 t key) (.inr (.inr ())) r)) := fun C => by kernel_rfl
  refine runS_of (fun _ _ h => by cases h) WB104_0_ok (Nat.le_of_ble_eq_true rfl) ((e _).mpr ?_)
  unfold osmosisref1_Table_find_3_L0_s at h
  refine ⟨fun hb => ?_, fun hb => ?_⟩
  · have h := cond_t hb h
    obtain ⟨q4, h⟩ := bget hx4 h
    refine ⟨wP_idx R_api_Pair q4, ?_⟩
    refine ⟨fun hb => ?_, fun hb => ?_⟩
    · have h := cond_t hb h
      obtain ⟨q5, h⟩ := bget hx5 h
      refine ⟨wP_idx R_api_Pair q5, ?_⟩
      exact lfe_of h
    · have h := cond_f hb h
      exact lfe_of h
  · have h := cond_f hb h
    exact lfe_of h
theorem s_osmosisref1_Table_find_3_L0 (d : Nat) {t : osmosisref1_Table} {key : List UInt8} {s3 : Int} {r : (Int × Bool) ⊕ Unit} (h : osmosisref1_Table_find_3_L0 t key s3 = some r) : RunX (bloop (bexec (wcalls atab (d + 0)) KK 42 WB104_0) [0, 1, 6] KK) 1 (inL [0, 1, 6] (st_osmosisref1_Table_find_3_L0 t key s3)) (fin_osmosisref1_Table_find_3_L0 t key r) :=
  loop_of (st := st_osmosisref1_Table_find_3_L0 t key) (fin := fin_osmosisref1_Table_find_3_L0 t key) (step := osmosisref1_Table_find_3_L0_s t key) (fun e => by rcases e with e | e <;> (intro h; cases h)) (fun s x h => b_osmosisref1_Table_find_3_L0 d h) KK s3 r h

def osmosisref1_Table_find_3 (key : List UInt8) (t : osmosisref1_Table) : Option (Int × Bool) :=
  (osmosisref1_Table_find_3_L0 t key 0).bind fun (x6 : (Int × Bool) ⊕ Unit) => cond (isL x6) (some ((getL x6).1, (getL x6).2)) (some ((t.L.length : Int), false))
def out_osmosisref1_Table_find_3 (key : List UInt8) (t : osmosisref1_Table) (r : Int × Bool) : AV × WH := ((.tuple [(.int .i64 r.1), (.bool r.2)]), [(some (.cells (e_osmosisref1_Table t) false false))])

theorem s_osmosisref1_Table_find_3 (d : Nat) {key : List UInt8} {t : osmosisref1_Table} {r : Int × Bool} (h : osmosisref1_Table_find_3 key t = some r) : Spec (wcalls atab (d + 1)) 104 [(.ptr (some (0, 0))), (.str key)] [(some (.cells (e_osmosisref1_Table t) false false))] (out_osmosisref1_Table_find_3 key t r).1 (out_osmosisref1_Table_find_3 key t r).2 := by
  obtain ⟨x6, hx6⟩ := wx (osmosisref1_Table_find_3_L0 t key 0)
  have e : ∀ C : ACalls, wBody C (fun _ => none) KK WF104 [(.ptr (some (0, 0))), (.str key)] [(some (.cells (e_osmosisref1_Table t) false false))] (.ite (isL x6) (.lp [none, none, none] [] [] .ret [(4, (.int .i64 ((getL x6).1))), (5, (.bool ((getL x6).2)))] [(some (.cells (e_osmosisref1_Table t) false false))] (.fin (some false) [] none)) (.lp [none, none, none] [] [] (.exit 0) [(0, (.ptr (some (0, 0))))] [(some (.cells (e_osmosisref1_Table t) false false))] (.fin (some false) [] none))) (out_osmosisref1_Table_find_3 key t r).1 (out_osmosisref1_Table_find_3 key t r).2 = (2 = 2 ∧ 2 ≤ 42 ∧ (((isL x6) = true → (RunS (bloop (bexec C KK 42 WB104_0) [0, 1, 6] KK) 1 [(0, (.ptr (some (0, 0)))), (1, (.str key)), (6, (.int .i64 0))] [(some (.cells (e_osmosisref1_Table t) false false))] .ret [(4, (.int .i64 ((getL x6).1))), (5, (.bool ((getL x6).2)))] [(some (.cells (e_osmosisref1_Table t) false false))] ∧ lff (out_osmosisref1_Table_find_3 key t) ((getL x6).1, (getL x6).2) r)) ∧ ((isL x6) = false → (RunS (bloop (bexec C KK 42 WB104_0) [0, 1, 6] KK) 1 [(0, (.ptr (some (0, 0)))), (1, (.str key)), (6, (.int .i64 0))] [(some (.cells (e_osmosisref1_Table t) false false))] (.exit 0) [(0, (.ptr (some (0, 0))))] [(some (.cells (e_osmosisref1_Table t) false false))] ∧ lff (out_osmosisref1_Table_find_3 key t) ((t.L.length : Int), false) r)))) := fun C => by kernel_rfl
  refine spec_of (fun _ _ h => by cases h) rfl atab_104 WF104_ok ((e _).mpr ⟨rfl, by decide, ?_⟩)
  unfold osmosisref1_Table_find_3 at h
  obtain ⟨q6, h⟩ := bget hx6 h
  refine ⟨fun hb7 => ?_, fun hb7 => ?_⟩
  · have h := cond_t hb7 h
    refine ⟨by have h := s_osmosisref1_Table_find_3_L0 (d + 0) q6; rw [isL_t hb7] at h; exact h, ?_⟩
    exact lff_of h
  · have h := cond_f hb7 h
    refine ⟨by have h := s_osmosisref1_Table_find_3_L0 (d + 0) q6; rw [isL_f hb7] at h; exact h, ?_⟩
    exact lff_of h

/- (*osmosis/osmosisref1.Table).Do -/
abbrev in_osmosisref1_Table_Do_3_J0 (x2 : Int × Bool) (t : osmosisref1_Table) (o : api_Op) : Fast × WH := ([(0, (.ptr (some (0, 0)))), (3, (.ptr (some (1, 0)))), (4, (.ptr (some (2, 0)))), (5, (.int .i64 x2.1)), (6, (.bool x2.2))], [(some (.cells (e_osmosisref1_Table t) false false)), (some (.cells (e_api_Op o) false false)), (some (.cells (e_api_Answer (⟨0, ([] : List UInt8)⟩ : api_Answer)) false false))])
def fin_osmosisref1_Table_Do_3_J0 (x2 : Int × Bool) (t : osmosisref1_Table) (o : api_Op) : Unit ⊕ Unit → Ex × Fast × WH := fun
  | .inl e => (.ret, [(4, (.ptr (some (1, 0))))], [(some (.cells (e_osmosisref1_Table t) false false)), (some (.cells (e_api_Answer (⟨5, ([] : List UInt8)⟩ : api_Answer)) false false))])
  | .inr e => (.normal, [(0, (.ptr (some (0, 0)))), (3, (.ptr (some (1, 0)))), (4, (.ptr (some (2, 0)))), (5, (.int .i64 x2.1)), (6, (.bool x2.2))], [(some (.cells (e_osmosisref1_Table t) false false)), (some (.cells (e_api_Op o) false false)), (some (.cells (e_api_Answer (⟨0, ([] : List UInt8)⟩ : api_Answer)) false false))])
def osmosisref1_Table_Do_3_J0 (x2 : Int × Bool) (t : osmosisref1_Table) (o : api_Op) : Option (Unit ⊕ Unit) :=
  cond (!x2.2) (cond (decide ((t.L.length : Int) ≥ 8)) (some (.inl ())) (some (.inr ()))) (some (.inr ()))
theorem s_osmosisref1_Table_Do_3_J0 (d : Nat) {x2 : Int × Bool} {t : osmosisref1_Table} {o : api_Op} {r : Unit ⊕ Unit} (h : osmosisref1_Table_Do_3_J0 x2 t o = some r) : RunX (bexec (wcalls atab (d + 0)) KK 147 WJ62_bbbabkbfbta) 1 (in_osmosisref1_Table_Do_3_J0 x2 t o) (fin_osmosisref1_Table_Do_3_J0 x2 t o r) := by
  have e : ∀ C : ACalls, wCode C (fun _ => none) KK 147 1 WJ62_bbbabkbfbta (in_osmosisref1_Table_Do_3_J0 x2 t o).1 (in_osmosisref1_Table_Do_3_J0 x2 t o).2 (.br 40 (.br 47 (.st none (.en [4] [none] [] [])) (.en [0, 3, 4, 5, 6] [none, none, none, none, none] [] [])) (.en [0, 3, 4, 5, 6] [none, none, none, none, none] [] [])) (fin_osmosisref1_Table_Do_3_J0 x2 t o r) = (((!x2.2) = true → (((decide ((t.L.length : Int) ≥ 8)) = true → lfe (fin_osmosisref1_Table_Do_3_J0 x2 t o) (.inl ()) r) ∧ ((decide ((t.L.length : Int) ≥ 8)) = false → lfe (fin_osmosisref1_Table_Do_3_J0 x2 t o) (.inr ()) r))) ∧ ((!x2.2) = false → lfe (fin_osmosisref1_Table_Do_3_J0 x2 t o) (.inr ()) r)) := fun C => by kernel_rfl
  refine runS_of (fun _ _ h => by cases h) WJ62_bbbabkbfbta_ok (Nat.le_of_ble_eq_true rfl) ((e _).mpr ?_)
  unfold osmosisref1_Table_Do_3_J0 at h
  refine ⟨fun hb => ?_, fun hb => ?_⟩
  · have h := cond_t hb h
    refine ⟨fun hb => ?_, fun hb => ?_⟩
    · have h := cond_t hb h
      exact lfe_of h
    · have h := cond_f hb h
      exact lfe_of h
  · have h := cond_f hb h
    exact lfe_of h

abbrev in_osmosisref1_Table_Do_3_J1 (x2 : Int × Bool) (x6 : List api_Pair) (o : api_Op) (t : osmosisref1_Table) : Fast × WH := ([(0, (.ptr (some (0, 0)))), (4, (.ptr (some (1, 0)))), (5, (.int .i64 x2.1)), (6, (.bool x2.2)), (7, (.acc 2 0 2 ((x6 ++ [(⟨o.Key, o.Value⟩ : api_Pair)]).length) true))], [(some (.cells (e_osmosisref1_Table t) false false)), (some (.cells (e_api_Answer (⟨0, ([] : List UInt8)⟩ : api_Answer)) false false)), (some (.cells (F_api_Pair (x6 ++ [(⟨o.Key, o.Value⟩ : api_Pair)])) false true))])
def fin_osmosisref1_Table_Do_3_J1 (x2 : Int × Bool) (x6 : List api_Pair) (o : api_Op) (t : osmosisref1_Table) : Int → Ex × Fast × WH := fun e => (.normal, [(0, (.ptr (some (0, 0)))), (4, (.ptr (some (1, 0)))), (5, (.int .i64 e)), (7, (.acc 2 0 2 ((x6 ++ [(⟨o.Key, o.Value⟩ : api_Pair)]).length) true))], [(some (.cells (e_osmosisref1_Table t) false false)), (some (.cells (e_api_Answer (⟨0, ([] : List UInt8)⟩ : api_Answer)) false false)), (some (.cells (F_api_Pair (x6 ++ [(⟨o.Key, o.Value⟩ : api_Pair)])) false true))])
def osmosisref1_Table_Do_3_J1 (x2 : Int × Bool) (x6 : List api_Pair) (o : api_Op) (t : osmosisref1_Table) : Option (Int) :=
  cond x2.2 (some (IntKind.i64.wrap (x2.1 + 1))) (some x2.1)
theorem s_osmosisref1_Table_Do_3_J1 (d : Nat) {x2 : Int × Bool} {x6 : List api_Pair} {o : api_Op} {t : osmosisref1_Table} {r : Int} (h : osmosisref1_Table_Do_3_J1 x2 x6 o t = some r) : RunX (bexec (wcalls atab (d + 0)) KK 147 WJ62_bbbabkbfbtbbba) 1 (in_osmosisref1_Table_Do_3_J1 x2 x6 o t) (fin_osmosisref1_Table_Do_3_J1 x2 x6 o t r) := by
  have e : ∀ C : ACalls, wCode C (fun _ => none) KK 147 1 WJ62_bbbabkbfbtbbba (in_osmosisref1_Table_Do_3_J1 x2 x6 o t).1 (in_osmosisref1_Table_Do_3_J1 x2 x6 o t).2 (.br 65 (.en [0, 4, 5, 7] [none, none, none, none] [] [.undef, .undef, .undef, .slice none 2 0 0 true]) (.en [0, 4, 5, 7] [none, none, none, none] [] [.undef, .undef, .undef, .slice none 2 0 0 true])) (fin_osmosisref1_Table_Do_3_J1 x2 x6 o t r) = ((x2.2 = true → lfe (fin_osmosisref1_Table_Do_3_J1 x2 x6 o t) (IntKind.i64.wrap (x2.1 + 1)) r) ∧ (x2.2 = false → lfe (fin_osmosisref1_Table_Do_3_J1 x2 x6 o t) x2.1 r)) := fun C => by kernel_rfl
  refine runS_of (fun _ _ h => by cases h) WJ62_bbbabkbfbtbbba_ok (Nat.le_of_ble_eq_true rfl) ((e _).mpr ?_)
  unfold osmosisref1_Table_Do_3_J1 at h
  refine ⟨fun hb => ?_, fun hb => ?_⟩
  · have h := cond_t hb h
    exact lfe_of h
  · have h := cond_f hb h
    exact lfe_of h

def osmosisref1_Table_Do_3 (o : api_Op) (t : osmosisref1_Table) : Option (api_Answer × osmosisref1_Table) :=
  (osmosisref1_RightOp o).bind fun (x1 : Bool) => cond (!x1) (some ((⟨1, ([] : List UInt8)⟩ : api_Answer), t)) ((osmosisref1_Table_find_3 o.Key t).bind fun (x2 : Int × Bool) => cond (o.Kind == 1) (cond (!x2.2) (some ((⟨4, ([] : List UInt8)⟩ : api_Answer), t)) ((getI t.L x2.1).bind fun (x3 : api_Pair) => some ((⟨0, x3.Value⟩ : api_Answer), t))) (cond (o.Kind == 2) ((osmosisref1_Table_Do_3_J0 x2 t o).bind fun (x4 : Unit ⊕ Unit) => cond (isL x4) (some ((⟨5, ([] : List UInt8)⟩ : api_Answer), t)) ((slI t.L 0 x2.1).bind fun (x6 : List api_Pair) => gd (fitsB 32 x6.length) (gd (fitsB 32 (x6 ++ [(⟨o.Key, o.Value⟩ : api_Pair)]).length) ((osmosisref1_Table_Do_3_J1 x2 x6 o t).bind fun (x9 : Int) => (slI t.L x9 t.L.length).bind fun (x10 : List api_Pair) => gd (fitsB 32 ((x6 ++ [(⟨o.Key, o.Value⟩ : api_Pair)]) ++ x10).length) (some ((⟨0, ([] : List UInt8)⟩ : api_Answer), (⟨((x6 ++ [(⟨o.Key, o.Value⟩ : api_Pair)]) ++ x10)⟩ : osmosisref1_Table))))))) (cond (o.Kind == 3) (cond (!x2.2) (some ((⟨4, ([] : List UInt8)⟩ : api_Answer), t)) ((slI t.L 0 x2.1).bind fun (x12 : List api_Pair) => gd (fitsB 32 x12.length) ((slI t.L (IntKind.i64.wrap (x2.1 + 1)) t.L.length).bind fun (x14 : List api_Pair) => gd (fitsB 32 (x12 ++ x14).length) (some ((⟨0, ([] : List UInt8)⟩ : api_Answer), (⟨(x12 ++ x14)⟩ : osmosisref1_Table)))))) (cond (!x2.2) (some ((⟨4, ([] : List UInt8)⟩ : api_Answer), t)) ((getI t.L x2.1).bind fun (x16 : api_Pair) => cond (!(x16.Value == o.Old)) ((getI t.L x2.1).bind fun (x17 : api_Pair) => some ((⟨6, x17.Value⟩ : api_Answer), t)) (gd (fitsB 32 t.L.length) ((getI t.L x2.1).bind fun (x19 : api_Pair) => some ((⟨0, ([] : List UInt8)⟩ : api_Answer), (⟨(t.L.set x2.1.toNat (⟨x19.Key, o.Value⟩ : api_Pair))⟩ : osmosisref1_Table)))))))))
def out_osmosisref1_Table_Do_3 (o : api_Op) (t : osmosisref1_Table) (r : api_Answer × osmosisref1_Table) : AV × WH := ((.agg (e_api_Answer r.1)), [(some (.cells (e_osmosisref1_Table r.2) false false))])

theorem s_osmosisref1_Table_Do_3 (d : Nat) {o : api_Op} {t : osmosisref1_Table} {r : api_Answer × osmosisref1_Table} (h : osmosisref1_Table_Do_3 o t = some r) : Spec (wcalls atab (d + 2)) 62 [(.ptr (some (0, 0))), (.agg (e_api_Op o))] [(some (.cells (e_osmosisref1_Table t) false false))] (out_osmosisref1_Table_Do_3 o t r).1 (out_osmosisref1_Table_Do_3 o t r).2 := by
  obtain ⟨x1, hx1⟩ := wx (osmosisref1_RightOp o)
  obtain ⟨x2, hx2⟩ := wx (osmosisref1_Table_find_3 o.Key t)
  obtain ⟨x3, hx3⟩ := wx (getI t.L x2.1)
  obtain ⟨x4, hx4⟩ := wx (osmosisref1_Table_Do_3_J0 x2 t o)
  obtain ⟨x6, hx6⟩ := wx (slI t.L 0 x2.1)
  obtain ⟨x9, hx9⟩ := wx (osmosisref1_Table_Do_3_J1 x2 x6 o t)
  obtain ⟨x10, hx10⟩ := wx (slI t.L x9 t.L.length)
  obtain ⟨x12, hx12⟩ := wx (slI t.L 0 x2.1)
  obtain ⟨x14, hx14⟩ := wx (slI t.L (IntKind.i64.wrap (x2.1 + 1)) t.L.length)
  obtain ⟨x16, hx16⟩ := wx (getI t.L x2.1)
  obtain ⟨x17, hx17⟩ := wx (getI t.L x2.1)
  obtain ⟨x19, hx19⟩ := wx (getI t.L x2.1)
  have e : ∀ C : ACalls, wBody C (fun _ => none) KK WF62 [(.ptr (some (0, 0))), (.agg (e_api_Op o))] [(some (.cells (e_osmosisref1_Table t) false false))] (.cb [] [] (.bool x1) (.br 11 (.st none (.fin (some false) [] (some false))) (.call [] (some false) [] (.tuple [(.int .i64 x2.1), (.bool x2.2)]) [(some (.cells (e_osmosisref1_Table t) false false))] (.br 22 (.br 25 (.st none (.fin (some false) [] (some false))) (.v 32 (.elem ((e_api_Pair x3) ++ F_api_Pair (t.L.drop (x2.1.toNat + 1)))) (.st none (.fin (some false) [] (some false))))) (.br 36 (.ite (isL x4) (.jn [0, 3, 4, 5, 6] [none, none, none, none, none] [] [] .ret [(4, (.ptr (some (1, 0))))] [(some (.cells (e_osmosisref1_Table t) false false)), (some (.cells (e_api_Answer (⟨5, ([] : List UInt8)⟩ : api_Answer)) false false))] (.fin (some false) [] (some false))) (.jn [0, 3, 4, 5, 6] [none, none, none, none, none] [] [] .normal [(0, (.ptr (some (0, 0)))), (3, (.ptr (some (1, 0)))), (4, (.ptr (some (2, 0)))), (5, (.int .i64 x2.1)), (6, (.bool x2.2))] [(some (.cells (e_osmosisref1_Table t) false false)), (some (.cells (e_api_Op o) false false)), (some (.cells (e_api_Answer (⟨0, ([] : List UInt8)⟩ : api_Answer)) false false))] (.v 55 (l_api_Pair x6) (.ap 56 x6.length (F_api_Pair x6) (.ap 64 (x6 ++ [(⟨o.Key, o.Value⟩ : api_Pair)]).length (F_api_Pair (x6 ++ [(⟨o.Key, o.Value⟩ : api_Pair)])) (.jn [0, 4, 5, 6, 7] [none, none, none, none, none] [] [.undef, .undef, .undef, .undef, .slice none 2 0 0 true] .normal [(0, (.ptr (some (0, 0)))), (4, (.ptr (some (1, 0)))), (5, (.int .i64 x9)), (7, (.acc 2 0 2 ((x6 ++ [(⟨o.Key, o.Value⟩ : api_Pair)]).length) true))] [(some (.cells (e_osmosisref1_Table t) false false)), (some (.cells (e_api_Answer (⟨0, ([] : List UInt8)⟩ : api_Answer)) false false)), (some (.cells (F_api_Pair (x6 ++ [(⟨o.Key, o.Value⟩ : api_Pair)])) false true))] (.v 75 (l_api_Pair x10) (.ap 76 ((x6 ++ [(⟨o.Key, o.Value⟩ : api_Pair)]) ++ x10).length (F_api_Pair ((x6 ++ [(⟨o.Key, o.Value⟩ : api_Pair)]) ++ x10)) (.st none (.st none (.fin (some false) [] (some false)))))))))))) (.br 80 (.br 83 (.st none (.fin (some false) [] (some false))) (.v 92 (l_api_Pair x12) (.ap 93 x12.length (F_api_Pair x12) (.v 100 (l_api_Pair x14) (.ap 101 (x12 ++ x14).length (F_api_Pair (x12 ++ x14)) (.st none (.st none (.fin (some false) [] (some false))))))))) (.br 105 (.st none (.fin (some false) [] (some false))) (.v 115 (.elem ((e_api_Pair x16) ++ F_api_Pair (t.L.drop (x2.1.toNat + 1)))) (.br 109 (.v 126 (.elem ((e_api_Pair x17) ++ F_api_Pair (t.L.drop (x2.1.toNat + 1)))) (.st none (.fin (some false) [] (some false)))) (.ap 135 t.L.length (F_api_Pair t.L) (.v 140 (.ptr (some (4, 0 + x2.1.toNat * 2))) (.st (some (F_api_Pair (t.L.set x2.1.toNat (⟨x19.Key, o.Value⟩ : api_Pair)))) (.st none (.st none (.fin (some false) [] (some false)))))))))))))))) (out_osmosisref1_Table_Do_3 o t r).1 (out_osmosisref1_Table_Do_3 o t r).2 = (2 = 2 ∧ 2 ≤ 147 ∧ (Spec C 63 [(.agg (e_api_Op o))] [] (.bool x1) [] ∧ (((!x1) = true → lff (out_osmosisref1_Table_Do_3 o t) ((⟨1, ([] : List UInt8)⟩ : api_Answer), t) r) ∧ ((!x1) = false → (Spec C 104 [(.ptr (some (0, 0))), (.str o.Key)] [(some (.cells (e_osmosisref1_Table t) false false))] (.tuple [(.int .i64 x2.1), (.bool x2.2)]) [(some (.cells (e_osmosisref1_Table t) false false))] ∧ (1 ≤ 1 ∧ (((o.Kind == 1) = true → (((!x2.2) = true → lff (out_osmosisref1_Table_Do_3 o t) ((⟨4, ([] : List UInt8)⟩ : api_Answer), t) r) ∧ ((!x2.2) = false → (wP (.idxSlice 2 (.c (l_api_Pair t.L)) (.c (.int .i64 x2.1))) = some (.elem ((e_api_Pair x3) ++ F_api_Pair (t.L.drop (x2.1.toNat + 1)))) ∧ lff (out_osmosisref1_Table_Do_3 o t) ((⟨0, x3.Value⟩ : api_Answer), t) r)))) ∧ ((o.Kind == 1) = false → (((o.Kind == 2) = true → (((isL x4) = true → (RunS (bexec C KK 147 WJ62_bbbabkbfbta) 1 [(0, (.ptr (some (0, 0)))), (3, (.ptr (some (1, 0)))), (4, (.ptr (some (2, 0)))), (5, (.int .i64 x2.1)), (6, (.bool x2.2))] [(some (.cells (e_osmosisref1_Table t) false false)), (some (.cells (e_api_Op o) false false)), (some (.cells (e_api_Answer (⟨0, ([] : List UInt8)⟩ : api_Answer)) false false))] .ret [(4, (.ptr (some (1, 0))))] [(some (.cells (e_osmosisref1_Table t) false false)), (some (.cells (e_api_Answer (⟨5, ([] : List UInt8)⟩ : api_Answer)) false false))] ∧ lff (out_osmosisref1_Table_Do_3 o t) ((⟨5, ([] : List UInt8)⟩ : api_Answer), t) r)) ∧ ((isL x4) = false → (RunS (bexec C KK 147 WJ62_bbbabkbfbta) 1 [(0, (.ptr (some (0, 0)))), (3, (.ptr (some (1, 0)))), (4, (.ptr (some (2, 0)))), (5, (.int .i64 x2.1)), (6, (.bool x2.2))] [(some (.cells (e_osmosisref1_Table t) false false)), (some (.cells (e_api_Op o) false false)), (some (.cells (e_api_Answer (⟨0, ([] : List UInt8)⟩ : api_Answer)) false false))] .normal [(0, (.ptr (some (0, 0)))), (3, (.ptr (some (1, 0)))), (4, (.ptr (some (2, 0)))), (5, (.int .i64 x2.1)), (6, (.bool x2.2))] [(some (.cells (e_osmosisref1_Table t) false false)), (some (.cells (e_api_Op o) false false)), (some (.cells (e_api_Answer (⟨0, ([] : List UInt8)⟩ : api_Answer)) false false))] ∧ (wP (.slice 2 (.c (l_api_Pair t.L)) none (some (.c (.int .i64 x2.1))) none) = some (l_api_Pair x6) ∧ (0 + x6.length = x6.length ∧ (F_api_Pair [] ++ F_api_Pair x6 = F_api_Pair x6 ∧ (fitsB 32 x6.length = true ∧ (x6.length + 1 = (x6 ++ [(⟨o.Key, o.Value⟩ : api_Pair)]).length ∧ (F_api_Pair x6 ++ F_api_Pair ([(⟨o.Key, o.Value⟩ : api_Pair)]) = F_api_Pair (x6 ++ [(⟨o.Key, o.Value⟩ : api_Pair)]) ∧ (fitsB 32 (x6 ++ [(⟨o.Key, o.Value⟩ : api_Pair)]).length = true ∧ (RunS (bexec C KK 147 WJ62_bbbabkbfbtbbba) 1 [(0, (.ptr (some (0, 0)))), (4, (.ptr (some (1, 0)))), (5, (.int .i64 x2.1)), (6, (.bool x2.2)), (7, (.acc 2 0 2 ((x6 ++ [(⟨o.Key, o.Value⟩ : api_Pair)]).length) true))] [(some (.cells (e_osmosisref1_Table t) false false)), (some (.cells (e_api_Answer (⟨0, ([] : List UInt8)⟩ : api_Answer)) false false)), (some (.cells (F_api_Pair (x6 ++ [(⟨o.Key, o.Value⟩ : api_Pair)])) false true))] .normal [(0, (.ptr (some (0, 0)))), (4, (.ptr (some (1, 0)))), (5, (.int .i64 x9)), (7, (.acc 2 0 2 ((x6 ++ [(⟨o.Key, o.Value⟩ : api_Pair)]).length) true))] [(some (.cells (e_osmosisref1_Table t) false false)), (some (.cells (e_api_Answer (⟨0, ([] : List UInt8)⟩ : api_Answer)) false false)), (some (.cells (F_api_Pair (x6 ++ [(⟨o.Key, o.Value⟩ : api_Pair)])) false true))] ∧ (wP (.slice 2 (.c (l_api_Pair t.L)) (some (.c (.int .i64 x9))) none none) = some (l_api_Pair x10) ∧ ((x6 ++ [(⟨o.Key, o.Value⟩ : api_Pair)]).length + x10.length = ((x6 ++ [(⟨o.Key, o.Value⟩ : api_Pair)]) ++ x10).length ∧ (F_api_Pair (x6 ++ [(⟨o.Key, o.Value⟩ : api_Pair)]) ++ F_api_Pair x10 = F_api_Pair ((x6 ++ [(⟨o.Key, o.Value⟩ : api_Pair)]) ++ x10) ∧ (fitsB 32 ((x6 ++ [(⟨o.Key, o.Value⟩ : api_Pair)]) ++ x10).length = true ∧ lff (out_osmosisref1_Table_Do_3 o t) ((⟨0, ([] : List UInt8)⟩ : api_Answer), (⟨((x6 ++ [(⟨o.Key, o.Value⟩ : api_Pair)]) ++ x10)⟩ : osmosisref1_Table)) r)))))))))))))))) ∧ ((o.Kind == 2) = false → (((o.Kind == 3) = true → (((!x2.2) = true → lff (out_osmosisref1_Table_Do_3 o t) ((⟨4, ([] : List UInt8)⟩ : api_Answer), t) r) ∧ ((!x2.2) = false → (wP (.slice 2 (.c (l_api_Pair t.L)) none (some (.c (.int .i64 x2.1))) none) = some (l_api_Pair x12) ∧ (0 + x12.length = x12.length ∧ (F_api_Pair [] ++ F_api_Pair x12 = F_api_Pair x12 ∧ (fitsB 32 x12.length = true ∧ (wP (.slice 2 (.c (l_api_Pair t.L)) (some (.c (.int .i64 (IntKind.i64.wrap (x2.1 + 1))))) none none) = some (l_api_Pair x14) ∧ (x12.length + x14.length = (x12 ++ x14).length ∧ (F_api_Pair x12 ++ F_api_Pair x14 = F_api_Pair (x12 ++ x14) ∧ (fitsB 32 (x12 ++ x14).length = true ∧ lff (out_osmosisref1_Table_Do_3 o t) ((⟨0, ([] : List UInt8)⟩ : api_Answer), (⟨(x12 ++ x14)⟩ : osmosisref1_Table)) r))))))))))) ∧ ((o.Kind == 3) = false → (((!x2.2) = true → lff (out_osmosisref1_Table_Do_3 o t) ((⟨4, ([] : List UInt8)⟩ : api_Answer), t) r) ∧ ((!x2.2) = false → (wP (.idxSlice 2 (.c (l_api_Pair t.L)) (.c (.int .i64 x2.1))) = some (.elem ((e_api_Pair x16) ++ F_api_Pair (t.L.drop (x2.1.toNat + 1)))) ∧ (((!(x16.Value == o.Old)) = true → (wP (.idxSlice 2 (.c (l_api_Pair t.L)) (.c (.int .i64 x2.1))) = some (.elem ((e_api_Pair x17) ++ F_api_Pair (t.L.drop (x2.1.toNat + 1)))) ∧ lff (out_osmosisref1_Table_Do_3 o t) ((⟨6, x17.Value⟩ : api_Answer), t) r)) ∧ ((!(x16.Value == o.Old)) = false → (0 + t.L.length = t.L.length ∧ (F_api_Pair [] ++ F_api_Pair t.L = F_api_Pair t.L ∧ (fitsB 32 t.L.length = true ∧ (wP (.idxSlice 2 (.c (.acc 4 0 2 t.L.length true)) (.c (.int .i64 x2.1))) = some (.ptr (some (4, 0 + x2.1.toNat * 2))) ∧ (wrC (F_api_Pair t.L) (0 + x2.1.toNat * 2 + 1) [(.str o.Value)] = some (F_api_Pair (t.L.set x2.1.toNat (⟨x19.Key, o.Value⟩ : api_Pair))) ∧ (@Eq AV (.agg (e_api_Answer (⟨0, ([] : List UInt8)⟩ : api_Answer))) (out_osmosisref1_Table_Do_3 o t r).1 ∧ @Eq WH [(some (.cells [(.list 2 t.L.length (F_api_Pair (t.L.set x2.1.toNat (⟨x19.Key, o.Value⟩ : api_Pair))) false)] false false))] (out_osmosisref1_Table_Do_3 o t r).2))))))))))))))))))))))) := fun C => by kernel_rfl
  refine spec_of (fun _ _ h => by cases h) rfl atab_62 WF62_ok ((e _).mpr ⟨rfl, by decide, ?_⟩)
  unfold osmosisref1_Table_Do_3 at h
  obtain ⟨q1, h⟩ := bget hx1 h
  refine ⟨s_osmosisref1_RightOp (d + 0) q1, ?_⟩
  refine ⟨fun hb => ?_, fun hb => ?_⟩
  · have h := cond_t hb h
    exact lff_of h
  · have h := cond_f hb h
    obtain ⟨q2, h⟩ := bget hx2 h
    refine ⟨s_osmosisref1_Table_find_3 (d + 0) q2, ?_⟩
    refine ⟨by decide, ?_⟩
    refine ⟨fun hb => ?_, fun hb => ?_⟩
    · have h := cond_t hb h
      refine ⟨fun hb => ?_, fun hb => ?_⟩
      · have h := cond_t hb h
        exact lff_of h
      · have h := cond_f hb h
        obtain ⟨q3, h⟩ := bget hx3 h
        refine ⟨wP_idx R_api_Pair q3, ?_⟩
        exact lff_of h
    · have h := cond_f hb h
      refine ⟨fun hb => ?_, fun hb => ?_⟩
      · have h := cond_t hb h
        obtain ⟨q4, h⟩ := bget hx4 h
        refine ⟨fun hb5 => ?_, fun hb5 => ?_⟩
        · have h := cond_t hb5 h
          refine ⟨by have h := s_osmosisref1_Table_Do_3_J0 (d + 1) q4; rw [isL_t hb5] at h; exact h, ?_⟩
          exact lff_of h
        · have h := cond_f hb5 h
          refine ⟨by have h := s_osmosisref1_Table_Do_3_J0 (d + 1) q4; rw [isL_f hb5] at h; exact h, ?_⟩
          obtain ⟨q6, h⟩ := bget hx6 h
          refine ⟨wP_sl_h R_api_Pair q6, ?_⟩
          obtain ⟨q7, h⟩ := gd_some h
          refine ⟨by simp, ?_⟩
          refine ⟨by first | rfl | simp [F_api_Pair], ?_⟩
          refine ⟨q7, ?_⟩
          obtain ⟨q8, h⟩ := gd_some h
          refine ⟨by simp, ?_⟩
          refine ⟨(Row.app R_api_Pair _ _).symm, ?_⟩
          refine ⟨q8, ?_⟩
          obtain ⟨q9, h⟩ := bget hx9 h
          refine ⟨s_osmosisref1_Table_Do_3_J1 (d + 1) q9, ?_⟩
          obtain ⟨q10, h⟩ := bget hx10 h
          refine ⟨wP_sl_l R_api_Pair q10, ?_⟩
          obtain ⟨q11, h⟩ := gd_some h
          refine ⟨app_len _ _, ?_⟩
          refine ⟨(Row.app R_api_Pair _ _).symm, ?_⟩
          refine ⟨q11, ?_⟩
          exact lff_of h
      · have h := cond_f hb h
        refine ⟨fun hb => ?_, fun hb => ?_⟩
        · have h := cond_t hb h
          refine ⟨fun hb => ?_, fun hb => ?_⟩
          · have h := cond_t hb h
            exact lff_of h
          · have h := cond_f hb h
            obtain ⟨q12, h⟩ := bget hx12 h
            refine ⟨wP_sl_h R_api_Pair q12, ?_⟩
            obtain ⟨q13, h⟩ := gd_some h
            refine ⟨by simp, ?_⟩
            refine ⟨by first | rfl | simp [F_api_Pair], ?_⟩
            refine ⟨q13, ?_⟩
            obtain ⟨q14, h⟩ := bget hx14 h
            refine ⟨wP_sl_l R_api_Pair q14, ?_⟩
            obtain ⟨q15, h⟩ := gd_some h
            refine ⟨app_len _ _, ?_⟩
            refine ⟨(Row.app R_api_Pair _ _).symm, ?_⟩
            refine ⟨q15, ?_⟩
            exact lff_of h
        · have h := cond_f hb h
          refine ⟨fun hb => ?_, fun hb => ?_⟩
          · have h := cond_t hb h
            exact lff_of h
          · have h := cond_f hb h
            obtain ⟨q16, h⟩ := bget hx16 h
            refine ⟨wP_idx R_api_Pair q16, ?_⟩
            refine ⟨fun hb => ?_, fun hb => ?_⟩
            · have h := cond_t hb h
              obtain ⟨q17, h⟩ := bget hx17 h
              refine ⟨wP_idx R_api_Pair q17, ?_⟩
              exact lff_of h
            · have h := cond_f hb h
              obtain ⟨q18, h⟩ := gd_some h
              refine ⟨by simp, ?_⟩
              refine ⟨by first | rfl | simp [F_api_Pair], ?_⟩
              refine ⟨q18, ?_⟩
              obtain ⟨q19, h⟩ := bget hx19 h
              refine ⟨wP_idxA R_api_Pair q19, ?_⟩
              refine ⟨wr_row (o := 1) R_api_Pair q19 rfl, ?_⟩
              try rw [show AV.list 2 t.L.length (F_api_Pair (t.L.set x2.1.toNat (⟨x19.Key, o.Value⟩ : api_Pair))) false = l_api_Pair (t.L.set x2.1.toNat (⟨x19.Key, o.Value⟩ : api_Pair)) from by simp only [l_api_Pair, List.length_set]]
              obtain rfl := Option.some.inj h
              refine ⟨?_, ?_⟩ <;> first | rfl | (simp only [out_osmosisref1_Table_Do_3, List.length_set, List.length_append, List.length_replicate, List.length_cons, List.length_nil, List.length_take, List.length_drop, Nat.add_zero, Nat.zero_add]; done) | simp [out_osmosisref1_Table_Do_3]

/- (*osmosis/table.Table).Len -/
def table_Table_Len_2 (t : table_Table) : Option (Int) :=
  some (t.l.length : Int)
def out_table_Table_Len_2 (t : table_Table) (r : Int) : AV × WH := ((.int .i64 r), [(some (.cells (e_table_Table t) false false))])

theorem s_table_Table_Len_2 (d : Nat) {t : table_Table} {r : Int} (h : table_Table_Len_2 t = some r) : Spec (wcalls atab (d + 1)) 53 [(.ptr (some (0, 0)))] [(some (.cells (e_table_Table t) false false))] (out_table_Table_Len_2 t r).1 (out_table_Table_Len_2 t r).2 := by
  have e : ∀ C : ACalls, wBody C (fun _ => none) KK WF53 [(.ptr (some (0, 0)))] [(some (.cells (e_table_Table t) false false))] (.fin (some false) [] none) (out_table_Table_Len_2 t r).1 (out_table_Table_Len_2 t r).2 = (1 = 1 ∧ 1 ≤ 8 ∧ lff (out_table_Table_Len_2 t) (t.l.length : Int) r) := fun C => by kernel_rfl
  refine spec_of (fun _ _ h => by cases h) rfl atab_53 WF53_ok ((e _).mpr ⟨rfl, by decide, ?_⟩)
  unfold table_Table_Len_2 at h
  exact lff_of h

end Go.Proofs.Ytachollgbplikaa
