/- Functions as Lean functions, part 3. -/
import Derived.Test.YtachollgbplikaaXt
import Derived.Test.YtachollgbplikaaXs
import Derived.Test.YtachollgbplikaaY2
set_option linter.all false
set_option maxRecDepth 100000
namespace Go.Proofs.Ytachollgbplikaa
/- osmosis/osmosislaw8.ShardFull -/
def st_osmosislaw8_ShardFull_L0 (x2 : Int) (key : Int) (value : Int) (s6 : Int × shard_Shard) : List AV × WH := ([(.int .i64 key), (.int .i64 value), (.ptr (some (0, 0))), (.int .i64 x2), (.int .i64 s6.1)], [(some (.cells (e_shard_Shard s6.2) false false))])
def fin_osmosislaw8_ShardFull_L0 (x2 : Int) (key : Int) (value : Int) : Unit ⊕ shard_Shard → Ex × Fast × WH := fun
  | .inl e => (.ret, [(6, (.bool false))], [])
  | .inr e => ((.exit 0), [(0, (.int .i64 key)), (1, (.int .i64 value)), (7, (.ptr (some (0, 0)))), (8, (.int .i64 x2))], [(some (.cells (e_shard_Shard e) false false))])
abbrev rx_osmosislaw8_ShardFull_L0 (x2 : Int) (key : Int) (value : Int) := roundX [0, 1, 7, 8, 9] (st_osmosislaw8_ShardFull_L0 x2 key value) (fin_osmosislaw8_ShardFull_L0 x2 key value)
def osmosislaw8_ShardFull_L0_s (x2 : Int) (key : Int) (value : Int) (s6 : Int × shard_Shard) : Option ((Int × shard_Shard) ⊕ (Unit ⊕ shard_Shard)) :=
  cond (decide (s6.1 < 8)) ((catS ([102, 117, 108, 108]) ([(u8w (IntKind.i64.wrap (48 + s6.1)))])).bind fun (x7 : List UInt8) => (osmosislaw8_put x2 (IntKind.i64.wrap (s6.1 + 1)) x7 [118]).bind fun (x8 : api_Req) => (shard_Shard_Ask x8 s6.2).bind fun (x9 : api_Answer × Bool × shard_Shard) => cond (x9.1.Why != 0) (some (.inr (.inl ()))) (cond (!x9.2.1) (some (.inr (.inl ()))) (some (.inl ((IntKind.i64.wrap (s6.1 + 1)), x9.2.2))))) (some (.inr (.inr s6.2)))
def osmosislaw8_ShardFull_L0 (x2 : Int) (key : Int) (value : Int) (s6 : Int × shard_Shard) : Option (Unit ⊕ shard_Shard) := loopX (osmosislaw8_ShardFull_L0_s x2 key value) KK s6
theorem b_osmosislaw8_ShardFull_L0 (d : Nat) {x2 : Int} {key : Int} {value : Int} {s6 : Int × shard_Shard} {r : (Int × shard_Shard) ⊕ (Unit ⊕ shard_Shard)} (h : osmosislaw8_ShardFull_L0_s x2 key value s6 = some r) : RunX (bexec (wcalls atab (d + 7)) KK 109 WB19_0) 0 (inL [0, 1, 7, 8, 9] (st_osmosislaw8_ShardFull_L0 x2 key value s6)) (rx_osmosislaw8_ShardFull_L0 x2 key value r) := by
  obtain ⟨x7, hx7⟩ := wx (catS ([102, 117, 108, 108]) ([(u8w (IntKind.i64.wrap (48 + s6.1)))]))
  obtain ⟨x8, hx8⟩ := wx (osmosislaw8_put x2 (IntKind.i64.wrap (s6.1 + 1)) x7 [118])
  obtain ⟨x9, hx9⟩ := wx (shard_Shard_Ask x8 s6.2)
  have e : ∀ C : ACalls, wCode C (fun _ => none) KK 109 0 WB19_0 (inL [0, 1, 7, 8, 9] (st_osmosislaw8_ShardFull_L0 x2 key value s6)).1 (inL [0, 1, 7, 8, 9] (st_osmosislaw8_ShardFull_L0 x2 key value s6)).2 (.br 23 (.v 32 (.int .u8 ((u8w (IntKind.i64.wrap (48 + s6.1))).toNat : Int)) (.v 34 (.str [(u8w (IntKind.i64.wrap (48 + s6.1)))]) (.v 35 (.str x7) (.cb [] [] (.agg (e_api_Req x8)) (.call [] (some false) [] (.tuple [(.agg (e_api_Answer x9.1)), (.bool x9.2.1)]) [(some (.cells (e_shard_Shard x9.2.2) false false))] (.st none (.br 43 (.en [6] [none] [] []) (.br 46 (.en [6] [none] [] []) (.en [0, 1, 7, 8, 9] [none, none, none, none, none] [] []))))))))) (.en [0, 1, 7, 8] [none, none, none, none] [] [])) (rx_osmosislaw8_ShardFull_L0 x2 key value r) = (((decide (s6.1 < 8)) = true → (@Eq (Option AV) (some (.int .u8 (IntKind.u8.wrap (IntKind.i64.wrap (48 + s6.1))))) (some (.int .u8 ((u8w (IntKind.i64.wrap (48 + s6.1))).toNat : Int))) ∧ ((toBytes [(.int .u8 ((u8w (IntKind.i64.wrap (48 + s6.1))).toNat : Int))]).map AV.str = some (.str [(u8w (IntKind.i64.wrap (48 + s6.1)))]) ∧ (aStrs .add ([102, 117, 108, 108]) ([(u8w (IntKind.i64.wrap (48 + s6.1)))]) = some (.str x7) ∧ (Spec C 70 [(.int .i64 x2), (.int .i64 (IntKind.i64.wrap (s6.1 + 1))), (.str x7), (.str [118])] [] (.agg (e_api_Req x8)) [] ∧ (Spec C 66 [(.ptr (some (0, 0))), (.agg (e_api_Req x8))] [(some (.cells (e_shard_Shard s6.2) false false))] (.tuple [(.agg (e_api_Answer x9.1)), (.bool x9.2.1)]) [(some (.cells (e_shard_Shard x9.2.2) false false))] ∧ (1 ≤ 1 ∧ (((x9.1.Why != 0) = true → lfe (rx_osmosislaw8_ShardFull_L0 x2 key value) (.inr (.inl ())) r) ∧ ((x9.1.Why != 0) = false → (((!x9.2.1) = true → lfe (rx_osmosislaw8_ShardFull_L0 x2 key value) (.inr (.inl ())) r) ∧ ((!x9.2.1) = false → lfe (rx_osmosislaw8_ShardFull_L0 x2 key value) (.inl ((IntKind.i64.wrap (s6.1 + 1)), x9.2.2)) r))))))))))) ∧ ((decide (s6.1 < 8)) = false → lfe (rx_osmosislaw8_ShardFull_L0 x2 key value) (.inr (.inr s6.2)) r)) := fun C => by kernel_rfl
  refine runS_of (fun _ _ h => by cases h) WB19_0_ok (Nat.le_of_ble_eq_true rfl) ((e _).mpr ?_)
  unfold osmosislaw8_ShardFull_L0_s at h
  refine ⟨fun hb => ?_, fun hb => ?_⟩
  · have h := cond_t hb h
    refine ⟨u8_w _, ?_⟩
    refine ⟨by rw [show [(.int .u8 ((u8w (IntKind.i64.wrap (48 + s6.1))).toNat : Int))] = ([(u8w (IntKind.i64.wrap (48 + s6.1)))] : List UInt8).map byteC from rfl, toBytes_map]; rfl, ?_⟩
    obtain ⟨q7, h⟩ := bget hx7 h
    refine ⟨wP_cat q7, ?_⟩
    obtain ⟨q8, h⟩ := bget hx8 h
    refine ⟨s_osmosislaw8_put (d + 6) q8, ?_⟩
    obtain ⟨q9, h⟩ := bget hx9 h
    refine ⟨s_shard_Shard_Ask (d + 0) q9, ?_⟩
    refine ⟨by decide, ?_⟩
    refine ⟨fun hb => ?_, fun hb => ?_⟩
    · have h := cond_t hb h
      exact lfe_of h
    · have h := cond_f hb h
      refine ⟨fun hb => ?_, fun hb => ?_⟩
      · have h := cond_t hb h
        exact lfe_of h
      · have h := cond_f hb h
        exact lfe_of h
  · have h := cond_f hb h
    exact lfe_of h
theorem s_osmosislaw8_ShardFull_L0 (d : Nat) {x2 : Int} {key : Int} {value : Int} {s6 : Int × shard_Shard} {r : Unit ⊕ shard_Shard} (h : osmosislaw8_ShardFull_L0 x2 key value s6 = some r) : RunX (bloop (bexec (wcalls atab (d + 7)) KK 109 WB19_0) [0, 1, 7, 8, 9] KK) 0 (inL [0, 1, 7, 8, 9] (st_osmosislaw8_ShardFull_L0 x2 key value s6)) (fin_osmosislaw8_ShardFull_L0 x2 key value r) :=
  loop_of (st := st_osmosislaw8_ShardFull_L0 x2 key value) (fin := fin_osmosislaw8_ShardFull_L0 x2 key value) (step := osmosislaw8_ShardFull_L0_s x2 key value) (fun e => by rcases e with e | e <;> (intro h; cases h)) (fun s x h => b_osmosislaw8_ShardFull_L0 d h) KK s6 r h

abbrev in_osmosislaw8_ShardFull_J1 (x17 : Int × Int × List api_Pair × List api_Sess) (x12 : api_Image) (x16 : api_Answer × Bool × shard_Shard) (x19 : api_Answer × Bool × shard_Shard) : Fast × WH := ([(7, (.ptr (some (0, 0)))), (12, (.ptr (some (1, 0)))), (13, (.ptr (some (2, 0)))), (14, (.bool x16.2.1)), (15, (.ptr (some (3, 0)))), (16, (.ptr (some (4, 0)))), (17, (.bool x19.2.1))], [(some (.cells (e_shard_Shard x19.2.2) false false)), (some (.cells (e_api_Image x12) false false)), (some (.cells (e_api_Answer x16.1) false false)), (some (.cells [(.int .i64 x17.1), (.int .i64 x17.2.1), (.acc 5 0 2 x17.2.2.1.length true), (.acc 6 0 4 x17.2.2.2.length true)] false false)), (some (.cells (e_api_Answer x19.1) false false)), (some (.cells (F_api_Pair x17.2.2.1) false true)), (some (.cells (F_api_Sess x17.2.2.2) false true))])
def fin_osmosislaw8_ShardFull_J1 (x17 : Int × Int × List api_Pair × List api_Sess) (x12 : api_Image) (x16 : api_Answer × Bool × shard_Shard) (x19 : api_Answer × Bool × shard_Shard) : Unit ⊕ Unit → Ex × Fast × WH := fun
  | .inl e => (.ret, [(6, (.bool false))], [])
  | .inr e => (.normal, [(7, (.ptr (some (0, 0)))), (12, (.ptr (some (1, 0)))), (13, (.ptr (some (2, 0)))), (14, (.bool x16.2.1)), (15, (.ptr (some (3, 0)))), (16, (.ptr (some (4, 0)))), (17, (.bool x19.2.1))], [(some (.cells (e_shard_Shard x19.2.2) false false)), (some (.cells (e_api_Image x12) false false)), (some (.cells (e_api_Answer x16.1) false false)), (some (.cells [(.int .i64 x17.1), (.int .i64 x17.2.1), (.acc 5 0 2 x17.2.2.1.length true), (.acc 6 0 4 x17.2.2.2.length true)] false false)), (some (.cells (e_api_Answer x19.1) false false)), (some (.cells (F_api_Pair x17.2.2.1) false true)), (some (.cells (F_api_Sess x17.2.2.2) false true))])
def osmosislaw8_ShardFull_J1 (x17 : Int × Int × List api_Pair × List api_Sess) (x12 : api_Image) (x16 : api_Answer × Bool × shard_Shard) (x19 : api_Answer × Bool × shard_Shard) : Option (Unit ⊕ Unit) :=
  (osmosislaw8_known).bind fun (x20 : Bool) => cond (!x20) (some (.inl ())) (cond ((x17.2.2.2.length : Int) != 1) (some (.inl ())) (cond ((x12.Sess.length : Int) != 1) (some (.inl ())) (some (.inr ()))))
theorem s_osmosislaw8_ShardFull_J1 (d : Nat) {x17 : Int × Int × List api_Pair × List api_Sess} {x12 : api_Image} {x16 : api_Answer × Bool × shard_Shard} {x19 : api_Answer × Bool × shard_Shard} {r : Unit ⊕ Unit} (h : osmosislaw8_ShardFull_J1 x17 x12 x16 x19 = some r) : RunX (bexec (wcalls atab (d + 9)) KK 109 WJ19_bbbbbbbba) 0 (in_osmosislaw8_ShardFull_J1 x17 x12 x16 x19) (fin_osmosislaw8_ShardFull_J1 x17 x12 x16 x19 r) := by
  obtain ⟨x20, hx20⟩ := wx (osmosislaw8_known)
  have e : ∀ C : ACalls, wCode C (fun _ => none) KK 109 0 WJ19_bbbbbbbba (in_osmosislaw8_ShardFull_J1 x17 x12 x16 x19).1 (in_osmosislaw8_ShardFull_J1 x17 x12 x16 x19).2 (.cb [] [] (.bool x20) (.br 67 (.en [6] [none] [] []) (.br 73 (.en [6] [none] [] []) (.br 78 (.en [6] [none] [] []) (.en [7, 12, 13, 14, 15, 16, 17] [none, none, none, none, none, none, none] [] []))))) (fin_osmosislaw8_ShardFull_J1 x17 x12 x16 x19 r) = (Spec C 69 [] [] (.bool x20) [] ∧ (((!x20) = true → lfe (fin_osmosislaw8_ShardFull_J1 x17 x12 x16 x19) (.inl ()) r) ∧ ((!x20) = false → ((((x17.2.2.2.length : Int) != 1) = true → lfe (fin_osmosislaw8_ShardFull_J1 x17 x12 x16 x19) (.inl ()) r) ∧ (((x17.2.2.2.length : Int) != 1) = false → ((((x12.Sess.length : Int) != 1) = true → lfe (fin_osmosislaw8_ShardFull_J1 x17 x12 x16 x19) (.inl ()) r) ∧ (((x12.Sess.length : Int) != 1) = false → lfe (fin_osmosislaw8_ShardFull_J1 x17 x12 x16 x19) (.inr ()) r))))))) := fun C => by kernel_rfl
  refine runS_of (fun _ _ h => by cases h) WJ19_bbbbbbbba_ok (Nat.le_of_ble_eq_true rfl) ((e _).mpr ?_)
  unfold osmosislaw8_ShardFull_J1 at h
  obtain ⟨q20, h⟩ := bget hx20 h
  refine ⟨s_osmosislaw8_known (d + 0) q20, ?_⟩
  refine ⟨fun hb => ?_, fun hb => ?_⟩
  · have h := cond_t hb h
    exact lfe_of h
  · have h := cond_f hb h
    refine ⟨fun hb => ?_, fun hb => ?_⟩
    · have h := cond_t hb h
      exact lfe_of h
    · have h := cond_f hb h
      refine ⟨fun hb => ?_, fun hb => ?_⟩
      · have h := cond_t hb h
        exact lfe_of h
      · have h := cond_f hb h
        exact lfe_of h

def osmosislaw8_ShardFull (key : Int) (value : Int) (client : Int) : Option (Bool) :=
  (shard_Of (⟨1, 1, [], []⟩ : api_Image)).bind fun (x1 : shard_Shard) => (osmosishand_Pick client 4).bind fun (x2 : Int) => (osmosislaw8_ShardFull_L0 x2 key value (0, x1)).bind fun (x10 : Unit ⊕ shard_Shard) => cond (isL x10) (some false) ((shard_Shard_Image (getR x10)).bind fun (x12 : api_Image) => (osmosishand_Key key).bind fun (x13 : List UInt8) => (osmosishand_Value value).bind fun (x14 : List UInt8) => (osmosislaw8_put x2 50 x13 x14).bind fun (x15 : api_Req) => (shard_Shard_Ask x15 (getR x10)).bind fun (x16 : api_Answer × Bool × shard_Shard) => (shard_Shard_Image_2 x16.2.2).bind fun (x17 : Int × Int × List api_Pair × List api_Sess) => (osmosislaw8_put x2 51 ([102, 117, 108, 108, 51]) [119]).bind fun (x18 : api_Req) => (shard_Shard_Ask x18 x16.2.2).bind fun (x19 : api_Answer × Bool × shard_Shard) => (osmosislaw8_ShardFull_J1 x17 x12 x16 x19).bind fun (x21 : Unit ⊕ Unit) => cond (isL x21) (some false) ((getI x12.Sess 0).bind fun (x23 : api_Sess) => (getI x17.2.2.2 0).bind fun (x24 : api_Sess) => cond (x16.1.Why == 5) (cond x16.2.1 ((osmosisref1_SameImage (⟨x17.1, x17.2.1, x17.2.2.1, (x17.2.2.2.set (0 : Int).toNat x23)⟩ : api_Image) x12).bind fun (x25 : Bool) => cond x25 (cond (x19.1.Why == 0) (cond x19.2.1 ((shard_Shard_Weight x19.2.2).bind fun (x26 : Int) => some (x26 == 9)) (some false)) (some false)) (some false)) (some false)) (some false)))
def out_osmosislaw8_ShardFull (key : Int) (value : Int) (client : Int) (r : Bool) : AV × WH := ((.bool r), [])

theorem s_osmosislaw8_ShardFull (d : Nat) {key : Int} {value : Int} {client : Int} {r : Bool} (h : osmosislaw8_ShardFull key value client = some r) : Spec (wcalls atab (d + 10)) 19 [(.int .i64 key), (.int .i64 value), (.int .i64 client)] [] (out_osmosislaw8_ShardFull key value client r).1 (out_osmosislaw8_ShardFull key value client r).2 := by
  obtain ⟨x1, hx1⟩ := wx (shard_Of (⟨1, 1, [], []⟩ : api_Image))
  obtain ⟨x2, hx2⟩ := wx (osmosishand_Pick client 4)
  obtain ⟨x10, hx10⟩ := wx (osmosislaw8_ShardFull_L0 x2 key value (0, x1))
  obtain ⟨x12, hx12⟩ := wx (shard_Shard_Image (getR x10))
  obtain ⟨x13, hx13⟩ := wx (osmosishand_Key key)
  obtain ⟨x14, hx14⟩ := wx (osmosishand_Value value)
  obtain ⟨x15, hx15⟩ := wx (osmosislaw8_put x2 50 x13 x14)
  obtain ⟨x16, hx16⟩ := wx (shard_Shard_Ask x15 (getR x10))
  obtain ⟨x17, hx17⟩ := wx (shard_Shard_Image_2 x16.2.2)
  obtain ⟨x18, hx18⟩ := wx (osmosislaw8_put x2 51 ([102, 117, 108, 108, 51]) [119])
  obtain ⟨x19, hx19⟩ := wx (shard_Shard_Ask x18 x16.2.2)
  obtain ⟨x21, hx21⟩ := wx (osmosislaw8_ShardFull_J1 x17 x12 x16 x19)
  obtain ⟨x23, hx23⟩ := wx (getI x12.Sess 0)
  obtain ⟨x24, hx24⟩ := wx (getI x17.2.2.2 0)
  obtain ⟨x25, hx25⟩ := wx (osmosisref1_SameImage (⟨x17.1, x17.2.1, x17.2.2.1, (x17.2.2.2.set (0 : Int).toNat x23)⟩ : api_Image) x12)
  obtain ⟨x26, hx26⟩ := wx (shard_Shard_Weight x19.2.2)
  have e : ∀ C : ACalls, wBody C (fun _ => none) KK WF19 [(.int .i64 key), (.int .i64 value), (.int .i64 client)] [] (.z 18 [.agg [.undef, .undef, .slice none 2 0 0 true, .slice none 4 0 0 true]] (.call [] (some false) [.agg [.undef, .undef, .slice none 2 0 0 true, .slice none 4 0 0 true]] (.agg (e_shard_Shard x1)) [] (.z 7 [.slice none 2 0 0 true, .undef, .undef, .undef, .undef, .undef, .undef, .undef, .undef, .undef, .undef, .undef, .undef, .undef, .undef, .undef, .undef, .undef, .undef] (.st none (.cb [] [] (.int .i64 x2) (.ite (isL x10) (.lp [none, none, none, none, none] [] [] .ret [(6, (.bool false))] [] (.fin (some false) [] none)) (.lp [none, none, none, none, none] [] [] (.exit 0) [(0, (.int .i64 key)), (1, (.int .i64 value)), (7, (.ptr (some (0, 0)))), (8, (.int .i64 x2))] [(some (.cells (e_shard_Shard (getR x10)) false false))] (.call [] (some false) [] (.agg (e_api_Image x12)) [(some (.cells (e_shard_Shard (getR x10)) false false))] (.z 12 [.undef, .undef, .slice none 2 0 0 true, .slice none 4 0 0 true] (.st none (.cb [] [] (.str x13) (.cb [] [] (.str x14) (.cb [] [] (.agg (e_api_Req x15)) (.call [] (some false) [] (.tuple [(.agg (e_api_Answer x16.1)), (.bool x16.2.1)]) [(some (.cells (e_shard_Shard x16.2.2) false false))] (.st none (.call [] (some false) [] (.agg [(.int .i64 x17.1), (.int .i64 x17.2.1), (.acc 1 0 2 x17.2.2.1.length true), (.acc 2 0 4 x17.2.2.2.length true)]) [(some (.cells (e_shard_Shard x16.2.2) false false)), (some (.cells (F_api_Pair x17.2.2.1) false true)), (some (.cells (F_api_Sess x17.2.2.2) false true))] (.z 15 [.undef, .undef, .slice none 2 0 0 true, .slice none 4 0 0 true] (.st none (.cb [] [] (.agg (e_api_Req x18)) (.call [] (some false) [] (.tuple [(.agg (e_api_Answer x19.1)), (.bool x19.2.1)]) [(some (.cells (e_shard_Shard x19.2.2) false false))] (.st none (.ite (isL x21) (.jn [7, 12, 13, 14, 15, 16, 17] [none, none, none, none, none, none, none] [] [] .ret [(6, (.bool false))] [] (.fin (some false) [] none)) (.jn [7, 12, 13, 14, 15, 16, 17] [none, none, none, none, none, none, none] [] [] .normal [(7, (.ptr (some (0, 0)))), (12, (.ptr (some (1, 0)))), (13, (.ptr (some (2, 0)))), (14, (.bool x16.2.1)), (15, (.ptr (some (3, 0)))), (16, (.ptr (some (4, 0)))), (17, (.bool x19.2.1))] [(some (.cells (e_shard_Shard x19.2.2) false false)), (some (.cells (e_api_Image x12) false false)), (some (.cells (e_api_Answer x16.1) false false)), (some (.cells [(.int .i64 x17.1), (.int .i64 x17.2.1), (.acc 5 0 2 x17.2.2.1.length true), (.acc 6 0 4 x17.2.2.2.length true)] false false)), (some (.cells (e_api_Answer x19.1) false false)), (some (.cells (F_api_Pair x17.2.2.1) false true)), (some (.cells (F_api_Sess x17.2.2.2) false true))] (.v 83 (.elem ((e_api_Sess x23) ++ F_api_Sess (x12.Sess.drop ((0 : Int).toNat + 1)))) (.v 85 (.ptr (some (6, 0 + (0 : Int).toNat * 4))) (.st (some (F_api_Sess (x17.2.2.2.set (0 : Int).toNat x23))) (.br 89 (.br 92 (.cb [] [.agg [.undef, .undef, .slice none 2 0 0 true, .slice none 4 0 0 true], .agg [.undef, .undef, .slice none 2 0 0 true, .slice none 4 0 0 true]] (.bool x25) (.br 97 (.br 102 (.br 105 (.call [] (some false) [] (.int .i64 x26) [(some (.cells (e_shard_Shard x19.2.2) false false))] (.fin (some false) [] none)) (.fin (some false) [] none)) (.fin (some false) [] none)) (.fin (some false) [] none))) (.fin (some false) [] none)) (.fin (some false) [] none)))))))))))))))))))))))))))) (out_osmosislaw8_ShardFull key value client r).1 (out_osmosislaw8_ShardFull key value client r).2 = (3 = 3 ∧ 3 ≤ 109 ∧ (Spec C 65 [(.agg (e_api_Image (⟨1, 1, [], []⟩ : api_Image)))] [] (.agg (e_shard_Shard x1)) [] ∧ (0 ≤ 0 ∧ (Spec C 28 [(.int .i64 client), (.int .i64 4)] [] (.int .i64 x2) [] ∧ (((isL x10) = true → (RunS (bloop (bexec C KK 109 WB19_0) [0, 1, 7, 8, 9] KK) 0 [(0, (.int .i64 key)), (1, (.int .i64 value)), (7, (.ptr (some (0, 0)))), (8, (.int .i64 x2)), (9, (.int .i64 0))] [(some (.cells (e_shard_Shard x1) false false))] .ret [(6, (.bool false))] [] ∧ lff (out_osmosislaw8_ShardFull key value client) false r)) ∧ ((isL x10) = false → (RunS (bloop (bexec C KK 109 WB19_0) [0, 1, 7, 8, 9] KK) 0 [(0, (.int .i64 key)), (1, (.int .i64 value)), (7, (.ptr (some (0, 0)))), (8, (.int .i64 x2)), (9, (.int .i64 0))] [(some (.cells (e_shard_Shard x1) false false))] (.exit 0) [(0, (.int .i64 key)), (1, (.int .i64 value)), (7, (.ptr (some (0, 0)))), (8, (.int .i64 x2))] [(some (.cells (e_shard_Shard (getR x10)) false false))] ∧ (Spec C 67 [(.ptr (some (0, 0)))] [(some (.cells (e_shard_Shard (getR x10)) false false))] (.agg (e_api_Image x12)) [(some (.cells (e_shard_Shard (getR x10)) false false))] ∧ (1 ≤ 1 ∧ (Spec C 58 [(.int .i64 key)] [] (.str x13) [] ∧ (Spec C 59 [(.int .i64 value)] [] (.str x14) [] ∧ (Spec C 70 [(.int .i64 x2), (.int .i64 50), (.str x13), (.str x14)] [] (.agg (e_api_Req x15)) [] ∧ (Spec C 66 [(.ptr (some (0, 0))), (.agg (e_api_Req x15))] [(some (.cells (e_shard_Shard (getR x10)) false false))] (.tuple [(.agg (e_api_Answer x16.1)), (.bool x16.2.1)]) [(some (.cells (e_shard_Shard x16.2.2) false false))] ∧ (1 ≤ 1 ∧ (Spec C 67 [(.ptr (some (0, 0)))] [(some (.cells (e_shard_Shard x16.2.2) false false))] (.agg [(.int .i64 x17.1), (.int .i64 x17.2.1), (.acc 1 0 2 x17.2.2.1.length true), (.acc 2 0 4 x17.2.2.2.length true)]) [(some (.cells (e_shard_Shard x16.2.2) false false)), (some (.cells (F_api_Pair x17.2.2.1) false true)), (some (.cells (F_api_Sess x17.2.2.2) false true))] ∧ (1 ≤ 3 ∧ (Spec C 70 [(.int .i64 x2), (.int .i64 51), (.str ([102, 117, 108, 108, 51])), (.str [119])] [] (.agg (e_api_Req x18)) [] ∧ (Spec C 66 [(.ptr (some (0, 0))), (.agg (e_api_Req x18))] [(some (.cells (e_shard_Shard x16.2.2) false false))] (.tuple [(.agg (e_api_Answer x19.1)), (.bool x19.2.1)]) [(some (.cells (e_shard_Shard x19.2.2) false false))] ∧ (1 ≤ 1 ∧ (((isL x21) = true → (RunS (bexec C KK 109 WJ19_bbbbbbbba) 0 [(7, (.ptr (some (0, 0)))), (12, (.ptr (some (1, 0)))), (13, (.ptr (some (2, 0)))), (14, (.bool x16.2.1)), (15, (.ptr (some (3, 0)))), (16, (.ptr (some (4, 0)))), (17, (.bool x19.2.1))] [(some (.cells (e_shard_Shard x19.2.2) false false)), (some (.cells (e_api_Image x12) false false)), (some (.cells (e_api_Answer x16.1) false false)), (some (.cells [(.int .i64 x17.1), (.int .i64 x17.2.1), (.acc 5 0 2 x17.2.2.1.length true), (.acc 6 0 4 x17.2.2.2.length true)] false false)), (some (.cells (e_api_Answer x19.1) false false)), (some (.cells (F_api_Pair x17.2.2.1) false true)), (some (.cells (F_api_Sess x17.2.2.2) false true))] .ret [(6, (.bool false))] [] ∧ lff (out_osmosislaw8_ShardFull key value client) false r)) ∧ ((isL x21) = false → (RunS (bexec C KK 109 WJ19_bbbbbbbba) 0 [(7, (.ptr (some (0, 0)))), (12, (.ptr (some (1, 0)))), (13, (.ptr (some (2, 0)))), (14, (.bool x16.2.1)), (15, (.ptr (some (3, 0)))), (16, (.ptr (some (4, 0)))), (17, (.bool x19.2.1))] [(some (.cells (e_shard_Shard x19.2.2) false false)), (some (.cells (e_api_Image x12) false false)), (some (.cells (e_api_Answer x16.1) false false)), (some (.cells [(.int .i64 x17.1), (.int .i64 x17.2.1), (.acc 5 0 2 x17.2.2.1.length true), (.acc 6 0 4 x17.2.2.2.length true)] false false)), (some (.cells (e_api_Answer x19.1) false false)), (some (.cells (F_api_Pair x17.2.2.1) false true)), (some (.cells (F_api_Sess x17.2.2.2) false true))] .normal [(7, (.ptr (some (0, 0)))), (12, (.ptr (some (1, 0)))), (13, (.ptr (some (2, 0)))), (14, (.bool x16.2.1)), (15, (.ptr (some (3, 0)))), (16, (.ptr (some (4, 0)))), (17, (.bool x19.2.1))] [(some (.cells (e_shard_Shard x19.2.2) false false)), (some (.cells (e_api_Image x12) false false)), (some (.cells (e_api_Answer x16.1) false false)), (some (.cells [(.int .i64 x17.1), (.int .i64 x17.2.1), (.acc 5 0 2 x17.2.2.1.length true), (.acc 6 0 4 x17.2.2.2.length true)] false false)), (some (.cells (e_api_Answer x19.1) false false)), (some (.cells (F_api_Pair x17.2.2.1) false true)), (some (.cells (F_api_Sess x17.2.2.2) false true))] ∧ (wP (.idxSlice 4 (.c (l_api_Sess x12.Sess)) (.c (.int .i64 0))) = some (.elem ((e_api_Sess x23) ++ F_api_Sess (x12.Sess.drop ((0 : Int).toNat + 1)))) ∧ (wP (.idxSlice 4 (.c (.acc 6 0 4 x17.2.2.2.length true)) (.c (.int .i64 0))) = some (.ptr (some (6, 0 + (0 : Int).toNat * 4))) ∧ (wrC (F_api_Sess x17.2.2.2) (0 + (0 : Int).toNat * 4) [(.int .i64 x23.Client), (.int .i64 x23.Seq), (.int .i64 x23.Answer.Why), (.str x23.Answer.Value)] = some (F_api_Sess (x17.2.2.2.set (0 : Int).toNat x23)) ∧ (((x16.1.Why == 5) = true → ((x16.2.1 = true → (Spec C 68 [(.agg [(.int .i64 x17.1), (.int .i64 x17.2.1), (l_api_Pair x17.2.2.1), (.list 4 x17.2.2.2.length (F_api_Sess (x17.2.2.2.set (0 : Int).toNat x23)) false)]), (.agg (e_api_Image x12))] [] (.bool x25) [] ∧ ((x25 = true → (((x19.1.Why == 0) = true → ((x19.2.1 = true → (Spec C 71 [(.ptr (some (0, 0)))] [(some (.cells (e_shard_Shard x19.2.2) false false))] (.int .i64 x26) [(some (.cells (e_shard_Shard x19.2.2) false false))] ∧ (1 ≤ 1 ∧ lff (out_osmosislaw8_ShardFull key value client) (x26 == 9) r))) ∧ (x19.2.1 = false → lff (out_osmosislaw8_ShardFull key value client) false r))) ∧ ((x19.1.Why == 0) = false → lff (out_osmosislaw8_ShardFull key value client) false r))) ∧ (x25 = false → lff (out_osmosislaw8_ShardFull key value client) false r)))) ∧ (x16.2.1 = false → lff (out_osmosislaw8_ShardFull key value client) false r))) ∧ ((x16.1.Why == 5) = false → lff (out_osmosislaw8_ShardFull key value client) false r))))))))))))))))))))))))))) := fun C => by kernel_rfl
  refine spec_of (fun _ _ h => by cases h) rfl atab_19 WF19_ok ((e _).mpr ⟨rfl, by decide, ?_⟩)
  unfold osmosislaw8_ShardFull at h
  obtain ⟨q1, h⟩ := bget hx1 h
  refine ⟨s_shard_Of (d + 1) q1, ?_⟩
  refine ⟨by decide, ?_⟩
  obtain ⟨q2, h⟩ := bget hx2 h
  refine ⟨s_osmosishand_Pick (d + 8) q2, ?_⟩
  obtain ⟨q10, h⟩ := bget hx10 h
  refine ⟨fun hb11 => ?_, fun hb11 => ?_⟩
  · have h := cond_t hb11 h
    refine ⟨by have h := s_osmosislaw8_ShardFull_L0 (d + 2) q10; rw [isL_t hb11] at h; exact h, ?_⟩
    exact lff_of h
  · have h := cond_f hb11 h
    refine ⟨by have h := s_osmosislaw8_ShardFull_L0 (d + 2) q10; rw [isL_f hb11] at h; exact h, ?_⟩
    obtain ⟨q12, h⟩ := bget hx12 h
    refine ⟨s_shard_Shard_Image (d + 6) q12, ?_⟩
    refine ⟨by decide, ?_⟩
    obtain ⟨q13, h⟩ := bget hx13 h
    refine ⟨s_osmosishand_Key (d + 7) q13, ?_⟩
    obtain ⟨q14, h⟩ := bget hx14 h
    refine ⟨s_osmosishand_Value (d + 7) q14, ?_⟩
    obtain ⟨q15, h⟩ := bget hx15 h
    refine ⟨s_osmosislaw8_put (d + 8) q15, ?_⟩
    obtain ⟨q16, h⟩ := bget hx16 h
    refine ⟨s_shard_Shard_Ask (d + 2) q16, ?_⟩
    refine ⟨by decide, ?_⟩
    obtain ⟨q17, h⟩ := bget hx17 h
    refine ⟨s_shard_Shard_Image_2 (d + 6) q17, ?_⟩
    refine ⟨by decide, ?_⟩
    obtain ⟨q18, h⟩ := bget hx18 h
    refine ⟨s_osmosislaw8_put (d + 8) q18, ?_⟩
    obtain ⟨q19, h⟩ := bget hx19 h
    refine ⟨s_shard_Shard_Ask (d + 2) q19, ?_⟩
    refine ⟨by decide, ?_⟩
    obtain ⟨q21, h⟩ := bget hx21 h
    refine ⟨fun hb22 => ?_, fun hb22 => ?_⟩
    · have h := cond_t hb22 h
      refine ⟨by have h := s_osmosislaw8_ShardFull_J1 (d + 0) q21; rw [isL_t hb22] at h; exact h, ?_⟩
      exact lff_of h
    · have h := cond_f hb22 h
      refine ⟨by have h := s_osmosislaw8_ShardFull_J1 (d + 0) q21; rw [isL_f hb22] at h; exact h, ?_⟩
      obtain ⟨q23, h⟩ := bget hx23 h
      refine ⟨wP_idx R_api_Sess q23, ?_⟩
      obtain ⟨q24, h⟩ := bget hx24 h
      refine ⟨wP_idxA R_api_Sess q24, ?_⟩
      refine ⟨wr_row (o := 0) R_api_Sess q24 rfl, ?_⟩
      try rw [show AV.list 4 x17.2.2.2.length (F_api_Sess (x17.2.2.2.set (0 : Int).toNat x23)) false = l_api_Sess (x17.2.2.2.set (0 : Int).toNat x23) from by simp only [l_api_Sess, List.length_set]]
      refine ⟨fun hb => ?_, fun hb => ?_⟩
      · have h := cond_t hb h
        refine ⟨fun hb => ?_, fun hb => ?_⟩
        · have h := cond_t hb h
          obtain ⟨q25, h⟩ := bget hx25 h
          refine ⟨s_osmosisref1_SameImage (d + 8) q25, ?_⟩
          refine ⟨fun hb => ?_, fun hb => ?_⟩
          · have h := cond_t hb h
            refine ⟨fun hb => ?_, fun hb => ?_⟩
            · have h := cond_t hb h
              refine ⟨fun hb => ?_, fun hb => ?_⟩
              · have h := cond_t hb h
                obtain ⟨q26, h⟩ := bget hx26 h
                refine ⟨s_shard_Shard_Weight (d + 7) q26, ?_⟩
                refine ⟨by decide, ?_⟩
                exact lff_of h
              · have h := cond_f hb h
                exact lff_of h
            · have h := cond_f hb h
              exact lff_of h
          · have h := cond_f hb h
            exact lff_of h
        · have h := cond_f hb h
          exact lff_of h
      · have h := cond_f hb h
        exact lff_of h

end Go.Proofs.Ytachollgbplikaa
