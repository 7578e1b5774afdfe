/- Functions as Lean functions, part 3. -/
import Derived.Test.YtachollgbplikaaXt
import Derived.Test.YtachollgbplikaaXs
import Derived.Test.YtachollgbplikaaY2
set_option linter.all false
set_option maxRecDepth 100000
namespace Go.Proofs.Ytachollgbplikaa
/- osmosis/osmosislaw6.same -/
def st_osmosislaw6_same_L0 (a : List api_Pair) (p_b : List api_Pair) (s3 : Int) : List AV × WH := ([(l_api_Pair a), (l_api_Pair p_b), (.int .i64 (a.length : Int)), (.int .i64 s3)], [])
def fin_osmosislaw6_same_L0 (a : List api_Pair) (p_b : List api_Pair) : Unit ⊕ Unit → Ex × Fast × WH := fun
  | .inl e => (.ret, [(4, (.bool false))], [])
  | .inr e => ((.exit 0), [], [])
abbrev rx_osmosislaw6_same_L0 (a : List api_Pair) (p_b : List api_Pair) := roundX [0, 1, 12, 13] (st_osmosislaw6_same_L0 a p_b) (fin_osmosislaw6_same_L0 a p_b)
def osmosislaw6_same_L0_s (a : List api_Pair) (p_b : List api_Pair) (s3 : Int) : Option ((Int) ⊕ (Unit ⊕ Unit)) :=
  cond (decide (s3 < (a.length : Int))) ((getI a s3).bind fun (x4 : api_Pair) => (getI p_b s3).bind fun (x5 : api_Pair) => cond (!(x4.Key == x5.Key && (x4.Value == x5.Value && true))) (some (.inr (.inl ()))) (some (.inl (IntKind.i64.wrap (s3 + 1))))) (some (.inr (.inr ())))
def osmosislaw6_same_L0 (a : List api_Pair) (p_b : List api_Pair) (s3 : Int) : Option (Unit ⊕ Unit) := loopX (osmosislaw6_same_L0_s a p_b) KK s3
theorem b_osmosislaw6_same_L0 (d : Nat) {a : List api_Pair} {p_b : List api_Pair} {s3 : Int} {r : (Int) ⊕ (Unit ⊕ Unit)} (h : osmosislaw6_same_L0_s a p_b s3 = some r) : RunX (bexec (wcalls atab (d + 0)) KK 26 WB64_0) 0 (inL [0, 1, 12, 13] (st_osmosislaw6_same_L0 a p_b s3)) (rx_osmosislaw6_same_L0 a p_b r) := by
  obtain ⟨x4, hx4⟩ := wx (getI a s3)
  obtain ⟨x5, hx5⟩ := wx (getI p_b s3)
  have e : ∀ C : ACalls, wCode C (fun _ => none) KK 26 0 WB64_0 (inL [0, 1, 12, 13] (st_osmosislaw6_same_L0 a p_b s3)).1 (inL [0, 1, 12, 13] (st_osmosislaw6_same_L0 a p_b s3)).2 (.br 14 (.v 18 (.elem ((e_api_Pair x4) ++ F_api_Pair (a.drop (s3.toNat + 1)))) (.v 22 (.elem ((e_api_Pair x5) ++ F_api_Pair (p_b.drop (s3.toNat + 1)))) (.br 24 (.en [4] [none] [] []) (.en [0, 1, 12, 13] [none, none, none, none] [] [.slice none 2 0 0 true, .slice none 2 0 0 true, .undef, .undef])))) (.en [] [] [] [])) (rx_osmosislaw6_same_L0 a p_b r) = (((decide (s3 < (a.length : Int))) = true → (wP (.idxSlice 2 (.c (l_api_Pair a)) (.c (.int .i64 s3))) = some (.elem ((e_api_Pair x4) ++ F_api_Pair (a.drop (s3.toNat + 1)))) ∧ (wP (.idxSlice 2 (.c (l_api_Pair p_b)) (.c (.int .i64 s3))) = some (.elem ((e_api_Pair x5) ++ F_api_Pair (p_b.drop (s3.toNat + 1)))) ∧ (((!(x4.Key == x5.Key && (x4.Value == x5.Value && true))) = true → lfe (rx_osmosislaw6_same_L0 a p_b) (.inr (.inl ())) r) ∧ ((!(x4.Key == x5.Key && (x4.Value == x5.Value && true))) = false → lfe (rx_osmosislaw6_same_L0 a p_b) (.inl (IntKind.i64.wrap (s3 + 1))) r))))) ∧ ((decide (s3 < (a.length : Int))) = false → lfe (rx_osmosislaw6_same_L0 a p_b) (.inr (.inr ())) r)) := fun C => by kernel_rfl
  refine runS_of (fun _ _ h => by cases h) WB64_0_ok (Nat.le_of_ble_eq_true rfl) ((e _).mpr ?_)
  unfold osmosislaw6_same_L0_s at h
  refine ⟨fun hb => ?_, fun hb => ?_⟩
  · have h := cond_t hb h
    obtain ⟨q4, h⟩ := bget hx4 h
    refine ⟨wP_idx R_api_Pair q4, ?_⟩
    obtain ⟨q5, h⟩ := bget hx5 h
    refine ⟨wP_idx R_api_Pair q5, ?_⟩
    refine ⟨fun hb => ?_, fun hb => ?_⟩
    · have h := cond_t hb h
      exact lfe_of h
    · have h := cond_f hb h
      exact lfe_of h
  · have h := cond_f hb h
    exact lfe_of h
theorem s_osmosislaw6_same_L0 (d : Nat) {a : List api_Pair} {p_b : List api_Pair} {s3 : Int} {r : Unit ⊕ Unit} (h : osmosislaw6_same_L0 a p_b s3 = some r) : RunX (bloop (bexec (wcalls atab (d + 0)) KK 26 WB64_0) [0, 1, 12, 13] KK) 0 (inL [0, 1, 12, 13] (st_osmosislaw6_same_L0 a p_b s3)) (fin_osmosislaw6_same_L0 a p_b r) :=
  loop_of (st := st_osmosislaw6_same_L0 a p_b) (fin := fin_osmosislaw6_same_L0 a p_b) (step := osmosislaw6_same_L0_s a p_b) (fun e => by rcases e with e | e <;> (intro h; cases h)) (fun s x h => b_osmosislaw6_same_L0 d h) KK s3 r h

def osmosislaw6_same (a : List api_Pair) (p_b : List api_Pair) : Option (Bool) :=
  cond ((a.length : Int) != (p_b.length : Int)) (some false) ((osmosislaw6_same_L0 a p_b 0).bind fun (x6 : Unit ⊕ Unit) => cond (isL x6) (some false) (some true))
def out_osmosislaw6_same (a : List api_Pair) (p_b : List api_Pair) (r : Bool) : AV × WH := ((.bool r), [])

theorem s_osmosislaw6_same (d : Nat) {a : List api_Pair} {p_b : List api_Pair} {r : Bool} (h : osmosislaw6_same a p_b = some r) : Spec (wcalls atab (d + 1)) 64 [(l_api_Pair a), (l_api_Pair p_b)] [] (out_osmosislaw6_same a p_b r).1 (out_osmosislaw6_same a p_b r).2 := by
  obtain ⟨x6, hx6⟩ := wx (osmosislaw6_same_L0 a p_b 0)
  have e : ∀ C : ACalls, wBody C (fun _ => none) KK WF64 [(l_api_Pair a), (l_api_Pair p_b)] [] (.br 10 (.fin (some false) [] none) (.ite (isL x6) (.lp [none, none, none, none] [] [.slice none 2 0 0 true, .slice none 2 0 0 true, .undef, .undef] .ret [(4, (.bool false))] [] (.fin (some false) [] none)) (.lp [none, none, none, none] [] [.slice none 2 0 0 true, .slice none 2 0 0 true, .undef, .undef] (.exit 0) [] [] (.fin (some false) [] none)))) (out_osmosislaw6_same a p_b r).1 (out_osmosislaw6_same a p_b r).2 = (2 = 2 ∧ 2 ≤ 26 ∧ ((((a.length : Int) != (p_b.length : Int)) = true → lff (out_osmosislaw6_same a p_b) false r) ∧ (((a.length : Int) != (p_b.length : Int)) = false → (((isL x6) = true → (RunS (bloop (bexec C KK 26 WB64_0) [0, 1, 12, 13] KK) 0 [(0, (l_api_Pair a)), (1, (l_api_Pair p_b)), (12, (.int .i64 (a.length : Int))), (13, (.int .i64 0))] [] .ret [(4, (.bool false))] [] ∧ lff (out_osmosislaw6_same a p_b) false r)) ∧ ((isL x6) = false → (RunS (bloop (bexec C KK 26 WB64_0) [0, 1, 12, 13] KK) 0 [(0, (l_api_Pair a)), (1, (l_api_Pair p_b)), (12, (.int .i64 (a.length : Int))), (13, (.int .i64 0))] [] (.exit 0) [] [] ∧ lff (out_osmosislaw6_same a p_b) true r)))))) := fun C => by kernel_rfl
  refine spec_of (fun _ _ h => by cases h) rfl atab_64 WF64_ok ((e _).mpr ⟨rfl, by decide, ?_⟩)
  unfold osmosislaw6_same at h
  refine ⟨fun hb => ?_, fun hb => ?_⟩
  · have h := cond_t hb h
    exact lff_of h
  · have h := cond_f hb h
    obtain ⟨q6, h⟩ := bget hx6 h
    refine ⟨fun hb7 => ?_, fun hb7 => ?_⟩
    · have h := cond_t hb7 h
      refine ⟨by have h := s_osmosislaw6_same_L0 (d + 0) q6; rw [isL_t hb7] at h; exact h, ?_⟩
      exact lff_of h
    · have h := cond_f hb7 h
      refine ⟨by have h := s_osmosislaw6_same_L0 (d + 0) q6; rw [isL_f hb7] at h; exact h, ?_⟩
      exact lff_of h

/- osmosis/osmosislaw6.TableTells -/
def st_osmosislaw6_TableTells_L0 (first : List Int) (ops : List osmosishand_RawOp) (s13 : Int × List api_Pair) : List AV × WH := ([(l_osmosishand_RawOp ops), (.acc 0 0 2 s13.2.length true), (l_I first), (.int .i64 (first.length : Int)), (.int .i64 s13.1)], [(some (.cells (F_api_Pair s13.2) false true))])
def fin_osmosislaw6_TableTells_L0 (first : List Int) (ops : List osmosishand_RawOp) : (List api_Pair) → Ex × Fast × WH := fun e => ((.exit 0), [(0, (l_osmosishand_RawOp ops)), (5, (.acc 0 0 2 e.length true))], [(some (.cells (F_api_Pair e) false true))])
abbrev rx_osmosislaw6_TableTells_L0 (first : List Int) (ops : List osmosishand_RawOp) := roundX [0, 5, 13, 14, 15] (st_osmosislaw6_TableTells_L0 first ops) (fin_osmosislaw6_TableTells_L0 first ops)
def osmosislaw6_TableTells_L0_s (first : List Int) (ops : List osmosishand_RawOp) (s13 : Int × List api_Pair) : Option ((Int × List api_Pair) ⊕ ((List api_Pair))) :=
  cond (decide (s13.1 < (first.length : Int))) ((getI first s13.1).bind fun (x14 : Int) => (osmosishand_Key x14).bind fun (x15 : List UInt8) => (osmosishand_Value (IntKind.i64.wrap (Int.tdiv x14 16))).bind fun (x16 : List UInt8) => gd (fitsB 32 (s13.2 ++ [(⟨x15, x16⟩ : api_Pair)]).length) ((osmosishand_Pick x14 11).bind fun (x18 : Int) => cond (x18 == 10) ((getI (s13.2 ++ [(⟨x15, x16⟩ : api_Pair)]) (IntKind.i64.wrap (((s13.2 ++ [(⟨x15, x16⟩ : api_Pair)]).length : Int) - 1))).bind fun (x19 : api_Pair) => some (.inl ((IntKind.i64.wrap (s13.1 + 1)), ((s13.2 ++ [(⟨x15, x16⟩ : api_Pair)]).set (IntKind.i64.wrap (((s13.2 ++ [(⟨x15, x16⟩ : api_Pair)]).length : Int) - 1)).toNat (⟨[109, 117, 99, 104, 32, 116, 111, 111, 32, 108, 111, 110, 103], x19.Value⟩ : api_Pair))))) (some (.inl ((IntKind.i64.wrap (s13.1 + 1)), (s13.2 ++ [(⟨x15, x16⟩ : api_Pair)])))))) (some (.inr s13.2))
def osmosislaw6_TableTells_L0 (first : List Int) (ops : List osmosishand_RawOp) (s13 : Int × List api_Pair) : Option ((List api_Pair)) := loopX (osmosislaw6_TableTells_L0_s first ops) KK s13
theorem b_osmosislaw6_TableTells_L0 (d : Nat) {first : List Int} {ops : List osmosishand_RawOp} {s13 : Int × List api_Pair} {r : (Int × List api_Pair) ⊕ ((List api_Pair))} (h : osmosislaw6_TableTells_L0_s first ops s13 = some r) : RunX (bexec (wcalls atab (d + 2)) KK 79 WB15_0) 0 (inL [0, 5, 13, 14, 15] (st_osmosislaw6_TableTells_L0 first ops s13)) (rx_osmosislaw6_TableTells_L0 first ops r) := by
  obtain ⟨x14, hx14⟩ := wx (getI first s13.1)
  obtain ⟨x15, hx15⟩ := wx (osmosishand_Key x14)
  obtain ⟨x16, hx16⟩ := wx (osmosishand_Value (IntKind.i64.wrap (Int.tdiv x14 16)))
  obtain ⟨x18, hx18⟩ := wx (osmosishand_Pick x14 11)
  obtain ⟨x19, hx19⟩ := wx (getI (s13.2 ++ [(⟨x15, x16⟩ : api_Pair)]) (IntKind.i64.wrap (((s13.2 ++ [(⟨x15, x16⟩ : api_Pair)]).length : Int) - 1)))
  have e : ∀ C : ACalls, wCode C (fun _ => none) KK 79 0 WB15_0 (inL [0, 5, 13, 14, 15] (st_osmosislaw6_TableTells_L0 first ops s13)).1 (inL [0, 5, 13, 14, 15] (st_osmosislaw6_TableTells_L0 first ops s13)).2 (.br 16 (.v 17 (.elem ([(.int .i64 x14)] ++ F_I (first.drop (s13.1.toNat + 1)))) (.cb [] [] (.str x15) (.cb [] [] (.str x16) (.ap 27 (s13.2 ++ [(⟨x15, x16⟩ : api_Pair)]).length (F_api_Pair (s13.2 ++ [(⟨x15, x16⟩ : api_Pair)])) (.cb [] [] (.int .i64 x18) (.br 30 (.v 35 (.ptr (some (2, 0 + (IntKind.i64.wrap (((s13.2 ++ [(⟨x15, x16⟩ : api_Pair)]).length : Int) - 1)).toNat * 2))) (.st (some (F_api_Pair ((s13.2 ++ [(⟨x15, x16⟩ : api_Pair)]).set (IntKind.i64.wrap (((s13.2 ++ [(⟨x15, x16⟩ : api_Pair)]).length : Int) - 1)).toNat (⟨[109, 117, 99, 104, 32, 116, 111, 111, 32, 108, 111, 110, 103], x19.Value⟩ : api_Pair)))) (.en [0, 5, 13, 14, 15] [none, none, none, none, none] [] [.slice none 8 0 0 true, .slice none 2 0 0 true, .undef, .undef, .undef]))) (.en [0, 5, 13, 14, 15] [none, none, none, none, none] [] [.slice none 8 0 0 true, .slice none 2 0 0 true, .undef, .undef, .undef]))))))) (.en [0, 5] [none, none] [] [.slice none 8 0 0 true, .slice none 2 0 0 true])) (rx_osmosislaw6_TableTells_L0 first ops r) = (((decide (s13.1 < (first.length : Int))) = true → (wP (.idxSlice 1 (.c (l_I first)) (.c (.int .i64 s13.1))) = some (.elem ([(.int .i64 x14)] ++ F_I (first.drop (s13.1.toNat + 1)))) ∧ (Spec C 58 [(.int .i64 x14)] [] (.str x15) [] ∧ (Spec C 59 [(.int .i64 (IntKind.i64.wrap (Int.tdiv x14 16)))] [] (.str x16) [] ∧ (s13.2.length + 1 = (s13.2 ++ [(⟨x15, x16⟩ : api_Pair)]).length ∧ (F_api_Pair s13.2 ++ F_api_Pair ([(⟨x15, x16⟩ : api_Pair)]) = F_api_Pair (s13.2 ++ [(⟨x15, x16⟩ : api_Pair)]) ∧ (fitsB 32 (s13.2 ++ [(⟨x15, x16⟩ : api_Pair)]).length = true ∧ (Spec C 28 [(.int .i64 x14), (.int .i64 11)] [] (.int .i64 x18) [] ∧ (((x18 == 10) = true → (wP (.idxSlice 2 (.c (.acc 2 0 2 ((s13.2 ++ [(⟨x15, x16⟩ : api_Pair)]).length) true)) (.c (.int .i64 (IntKind.i64.wrap (((s13.2 ++ [(⟨x15, x16⟩ : api_Pair)]).length : Int) - 1))))) = some (.ptr (some (2, 0 + (IntKind.i64.wrap (((s13.2 ++ [(⟨x15, x16⟩ : api_Pair)]).length : Int) - 1)).toNat * 2))) ∧ (wrC (F_api_Pair (s13.2 ++ [(⟨x15, x16⟩ : api_Pair)])) (0 + (IntKind.i64.wrap (((s13.2 ++ [(⟨x15, x16⟩ : api_Pair)]).length : Int) - 1)).toNat * 2) [(.str ([109, 117, 99, 104, 32, 116, 111, 111, 32, 108, 111, 110, 103]))] = some (F_api_Pair ((s13.2 ++ [(⟨x15, x16⟩ : api_Pair)]).set (IntKind.i64.wrap (((s13.2 ++ [(⟨x15, x16⟩ : api_Pair)]).length : Int) - 1)).toNat (⟨[109, 117, 99, 104, 32, 116, 111, 111, 32, 108, 111, 110, 103], x19.Value⟩ : api_Pair))) ∧ (.normal = (rx_osmosislaw6_TableTells_L0 first ops r).1 ∧ [(0, (l_osmosishand_RawOp ops)), (5, (.acc 0 0 2 ((s13.2 ++ [(⟨x15, x16⟩ : api_Pair)]).length) true)), (13, (l_I first)), (14, (.int .i64 (first.length : Int))), (15, (.int .i64 (IntKind.i64.wrap (s13.1 + 1))))] = (rx_osmosislaw6_TableTells_L0 first ops r).2.1 ∧ [(some (.cells (F_api_Pair ((s13.2 ++ [(⟨x15, x16⟩ : api_Pair)]).set (IntKind.i64.wrap (((s13.2 ++ [(⟨x15, x16⟩ : api_Pair)]).length : Int) - 1)).toNat (⟨[109, 117, 99, 104, 32, 116, 111, 111, 32, 108, 111, 110, 103], x19.Value⟩ : api_Pair))) false true))] = (rx_osmosislaw6_TableTells_L0 first ops r).2.2)))) ∧ ((x18 == 10) = false → lfe (rx_osmosislaw6_TableTells_L0 first ops) (.inl ((IntKind.i64.wrap (s13.1 + 1)), (s13.2 ++ [(⟨x15, x16⟩ : api_Pair)]))) r)))))))))) ∧ ((decide (s13.1 < (first.length : Int))) = false → lfe (rx_osmosislaw6_TableTells_L0 first ops) (.inr s13.2) r)) := fun C => by kernel_rfl
  refine runS_of (fun _ _ h => by cases h) WB15_0_ok (Nat.le_of_ble_eq_true rfl) ((e _).mpr ?_)
  unfold osmosislaw6_TableTells_L0_s at h
  refine ⟨fun hb => ?_, fun hb => ?_⟩
  · have h := cond_t hb h
    obtain ⟨q14, h⟩ := bget hx14 h
    refine ⟨wP_idx R_I q14, ?_⟩
    obtain ⟨q15, h⟩ := bget hx15 h
    refine ⟨s_osmosishand_Key (d + 0) q15, ?_⟩
    obtain ⟨q16, h⟩ := bget hx16 h
    refine ⟨s_osmosishand_Value (d + 0) q16, ?_⟩
    obtain ⟨q17, h⟩ := gd_some h
    refine ⟨by simp, ?_⟩
    refine ⟨(Row.app R_api_Pair _ _).symm, ?_⟩
    refine ⟨q17, ?_⟩
    obtain ⟨q18, h⟩ := bget hx18 h
    refine ⟨s_osmosishand_Pick (d + 1) q18, ?_⟩
    refine ⟨fun hb => ?_, fun hb => ?_⟩
    · have h := cond_t hb h
      obtain ⟨q19, h⟩ := bget hx19 h
      refine ⟨wP_idxA R_api_Pair q19, ?_⟩
      refine ⟨wr_row (o := 0) R_api_Pair q19 rfl, ?_⟩
      try rw [show AV.list 2 ((s13.2 ++ [(⟨x15, x16⟩ : api_Pair)]).length) (F_api_Pair ((s13.2 ++ [(⟨x15, x16⟩ : api_Pair)]).set (IntKind.i64.wrap (((s13.2 ++ [(⟨x15, x16⟩ : api_Pair)]).length : Int) - 1)).toNat (⟨[109, 117, 99, 104, 32, 116, 111, 111, 32, 108, 111, 110, 103], x19.Value⟩ : api_Pair))) false = l_api_Pair ((s13.2 ++ [(⟨x15, x16⟩ : api_Pair)]).set (IntKind.i64.wrap (((s13.2 ++ [(⟨x15, x16⟩ : api_Pair)]).length : Int) - 1)).toNat (⟨[109, 117, 99, 104, 32, 116, 111, 111, 32, 108, 111, 110, 103], x19.Value⟩ : api_Pair)) from by simp only [l_api_Pair, List.length_set]]
      obtain rfl := Option.some.inj h
      refine ⟨rfl, ?_, ?_⟩ <;> first | rfl | (simp only [rx_osmosislaw6_TableTells_L0, roundX, zipKeep, fin_osmosislaw6_TableTells_L0, st_osmosislaw6_TableTells_L0, List.length_set, List.length_append, List.length_replicate, List.length_cons, List.length_nil, Nat.add_zero, Nat.zero_add]; done) | simp [rx_osmosislaw6_TableTells_L0, roundX, zipKeep, fin_osmosislaw6_TableTells_L0, st_osmosislaw6_TableTells_L0]
    · have h := cond_f hb h
      exact lfe_of h
  · have h := cond_f hb h
    exact lfe_of h
theorem s_osmosislaw6_TableTells_L0 (d : Nat) {first : List Int} {ops : List osmosishand_RawOp} {s13 : Int × List api_Pair} {r : (List api_Pair)} (h : osmosislaw6_TableTells_L0 first ops s13 = some r) : RunX (bloop (bexec (wcalls atab (d + 2)) KK 79 WB15_0) [0, 5, 13, 14, 15] KK) 0 (inL [0, 5, 13, 14, 15] (st_osmosislaw6_TableTells_L0 first ops s13)) (fin_osmosislaw6_TableTells_L0 first ops r) :=
  loop_of (st := st_osmosislaw6_TableTells_L0 first ops) (fin := fin_osmosislaw6_TableTells_L0 first ops) (step := osmosislaw6_TableTells_L0_s first ops) (fun e => by (intro h; cases h)) (fun s x h => b_osmosislaw6_TableTells_L0 d h) KK s13 r h

def st_osmosislaw6_TableTells_L1 (ops : List osmosishand_RawOp) (s32 : Int × table_Table × osmosisref1_Table) : List AV × WH := ([(.ptr (some (0, 0))), (.ptr (some (1, 0))), (l_osmosishand_RawOp ops), (.int .i64 (ops.length : Int)), (.int .i64 s32.1)], [(some (.cells (e_table_Table s32.2.1) false false)), (some (.cells (e_osmosisref1_Table s32.2.2) false false))])
def fin_osmosislaw6_TableTells_L1 (ops : List osmosishand_RawOp) : Unit ⊕ Unit → Ex × Fast × WH := fun
  | .inl e => (.ret, [(4, (.bool false))], [])
  | .inr e => ((.exit 2), [], [])
abbrev rx_osmosislaw6_TableTells_L1 (ops : List osmosishand_RawOp) := roundX [8, 9, 42, 43, 44] (st_osmosislaw6_TableTells_L1 ops) (fin_osmosislaw6_TableTells_L1 ops)
def osmosislaw6_TableTells_L1_s (ops : List osmosishand_RawOp) (s32 : Int × table_Table × osmosisref1_Table) : Option ((Int × table_Table × osmosisref1_Table) ⊕ (Unit ⊕ Unit)) :=
  cond (decide (s32.1 < (ops.length : Int))) ((getI ops s32.1).bind fun (x33 : osmosishand_RawOp) => (osmosishand_Req x33).bind fun (x34 : api_Req) => (table_Table_Do_3 x34.Op s32.2.1).bind fun (x35 : api_Answer × table_Table) => (osmosisref1_Table_Do_3 x34.Op s32.2.2).bind fun (x36 : api_Answer × osmosisref1_Table) => cond (!(x35.1.Why == x36.1.Why && (x35.1.Value == x36.1.Value && true))) (some (.inr (.inl ()))) ((table_Right x34.Op).bind fun (x37 : Bool) => (osmosisref1_RightOp x34.Op).bind fun (x38 : Bool) => cond (!(x37 == x38)) (some (.inr (.inl ()))) ((table_Table_Len_2 x35.2).bind fun (x39 : Int) => cond (x39 != (x36.2.L.length : Int)) (some (.inr (.inl ()))) ((table_Table_Pairs x35.2).bind fun (x40 : List api_Pair) => (osmosislaw6_same x40 x36.2.L).bind fun (x41 : Bool) => cond (!x41) (some (.inr (.inl ()))) (some (.inl ((IntKind.i64.wrap (s32.1 + 1)), x35.2, x36.2))))))) (some (.inr (.inr ())))
def osmosislaw6_TableTells_L1 (ops : List osmosishand_RawOp) (s32 : Int × table_Table × osmosisref1_Table) : Option (Unit ⊕ Unit) := loopX (osmosislaw6_TableTells_L1_s ops) KK s32
theorem b_osmosislaw6_TableTells_L1 (d : Nat) {ops : List osmosishand_RawOp} {s32 : Int × table_Table × osmosisref1_Table} {r : (Int × table_Table × osmosisref1_Table) ⊕ (Unit ⊕ Unit)} (h : osmosislaw6_TableTells_L1_s ops s32 = some r) : RunX (bexec (wcalls atab (d + 6)) KK 79 WB15_1) 0 (inL [8, 9, 42, 43, 44] (st_osmosislaw6_TableTells_L1 ops s32)) (rx_osmosislaw6_TableTells_L1 ops r) := by
  obtain ⟨x33, hx33⟩ := wx (getI ops s32.1)
  obtain ⟨x34, hx34⟩ := wx (osmosishand_Req x33)
  obtain ⟨x35, hx35⟩ := wx (table_Table_Do_3 x34.Op s32.2.1)
  obtain ⟨x36, hx36⟩ := wx (osmosisref1_Table_Do_3 x34.Op s32.2.2)
  obtain ⟨x37, hx37⟩ := wx (table_Right x34.Op)
  obtain ⟨x38, hx38⟩ := wx (osmosisref1_RightOp x34.Op)
  obtain ⟨x39, hx39⟩ := wx (table_Table_Len_2 x35.2)
  obtain ⟨x40, hx40⟩ := wx (table_Table_Pairs x35.2)
  obtain ⟨x41, hx41⟩ := wx (osmosislaw6_same x40 x36.2.L)
  have e : ∀ C : ACalls, wCode C (fun _ => none) KK 79 0 WB15_1 (inL [8, 9, 42, 43, 44] (st_osmosislaw6_TableTells_L1 ops s32)).1 (inL [8, 9, 42, 43, 44] (st_osmosislaw6_TableTells_L1 ops s32)).2 (.br 45 (.v 46 (.elem ((e_osmosishand_RawOp x33) ++ F_osmosishand_RawOp (ops.drop (s32.1.toNat + 1)))) (.st none (.cb [] [] (.agg (e_api_Req x34)) (.st none (.call [] (some false) [] (.agg (e_api_Answer x35.1)) [(some (.cells (e_table_Table x35.2) false false))] (.call [] (some false) [] (.agg (e_api_Answer x36.1)) [(some (.cells (e_osmosisref1_Table x36.2) false false))] (.br 56 (.en [4] [none] [] []) (.cb [] [] (.bool x37) (.cb [] [] (.bool x38) (.br 63 (.en [4] [none] [] []) (.call [] (some false) [] (.int .i64 x39) [(some (.cells (e_table_Table x35.2) false false))] (.br 70 (.en [4] [none] [] []) (.call [] (some false) [] (l_api_Pair x40) [(some (.cells (e_table_Table x35.2) false false))] (.cb [] [.slice none 2 0 0 true, .slice none 2 0 0 true] (.bool x41) (.br 76 (.en [4] [none] [] []) (.en [8, 9, 42, 43, 44] [none, none, none, none, none] [] [.undef, .undef, .slice none 8 0 0 true, .undef, .undef])))))))))))))))) (.en [] [] [] [])) (rx_osmosislaw6_TableTells_L1 ops r) = (((decide (s32.1 < (ops.length : Int))) = true → (wP (.idxSlice 8 (.c (l_osmosishand_RawOp ops)) (.c (.int .i64 s32.1))) = some (.elem ((e_osmosishand_RawOp x33) ++ F_osmosishand_RawOp (ops.drop (s32.1.toNat + 1)))) ∧ (Spec C 61 [(.agg (e_osmosishand_RawOp x33))] [] (.agg (e_api_Req x34)) [] ∧ (Spec C 52 [(.ptr (some (0, 0))), (.agg (e_api_Op x34.Op))] [(some (.cells (e_table_Table s32.2.1) false false))] (.agg (e_api_Answer x35.1)) [(some (.cells (e_table_Table x35.2) false false))] ∧ (1 ≤ 1 ∧ (Spec C 62 [(.ptr (some (0, 0))), (.agg (e_api_Op x34.Op))] [(some (.cells (e_osmosisref1_Table s32.2.2) false false))] (.agg (e_api_Answer x36.1)) [(some (.cells (e_osmosisref1_Table x36.2) false false))] ∧ (1 ≤ 1 ∧ (((!(x35.1.Why == x36.1.Why && (x35.1.Value == x36.1.Value && true))) = true → lfe (rx_osmosislaw6_TableTells_L1 ops) (.inr (.inl ())) r) ∧ ((!(x35.1.Why == x36.1.Why && (x35.1.Value == x36.1.Value && true))) = false → (Spec C 57 [(.agg (e_api_Op x34.Op))] [] (.bool x37) [] ∧ (Spec C 63 [(.agg (e_api_Op x34.Op))] [] (.bool x38) [] ∧ (((!(x37 == x38)) = true → lfe (rx_osmosislaw6_TableTells_L1 ops) (.inr (.inl ())) r) ∧ ((!(x37 == x38)) = false → (Spec C 53 [(.ptr (some (0, 0)))] [(some (.cells (e_table_Table x35.2) false false))] (.int .i64 x39) [(some (.cells (e_table_Table x35.2) false false))] ∧ (1 ≤ 1 ∧ (((x39 != (x36.2.L.length : Int)) = true → lfe (rx_osmosislaw6_TableTells_L1 ops) (.inr (.inl ())) r) ∧ ((x39 != (x36.2.L.length : Int)) = false → (Spec C 54 [(.ptr (some (0, 0)))] [(some (.cells (e_table_Table x35.2) false false))] (l_api_Pair x40) [(some (.cells (e_table_Table x35.2) false false))] ∧ (1 ≤ 1 ∧ (Spec C 64 [(l_api_Pair x40), (l_api_Pair x36.2.L)] [] (.bool x41) [] ∧ (((!x41) = true → lfe (rx_osmosislaw6_TableTells_L1 ops) (.inr (.inl ())) r) ∧ ((!x41) = false → lfe (rx_osmosislaw6_TableTells_L1 ops) (.inl ((IntKind.i64.wrap (s32.1 + 1)), x35.2, x36.2)) r)))))))))))))))))))))) ∧ ((decide (s32.1 < (ops.length : Int))) = false → lfe (rx_osmosislaw6_TableTells_L1 ops) (.inr (.inr ())) r)) := fun C => by kernel_rfl
  refine runS_of (fun _ _ h => by cases h) WB15_1_ok (Nat.le_of_ble_eq_true rfl) ((e _).mpr ?_)
  unfold osmosislaw6_TableTells_L1_s at h
  refine ⟨fun hb => ?_, fun hb => ?_⟩
  · have h := cond_t hb h
    obtain ⟨q33, h⟩ := bget hx33 h
    refine ⟨wP_idx R_osmosishand_RawOp q33, ?_⟩
    obtain ⟨q34, h⟩ := bget hx34 h
    refine ⟨s_osmosishand_Req (d + 2) q34, ?_⟩
    obtain ⟨q35, h⟩ := bget hx35 h
    refine ⟨s_table_Table_Do_3 (d + 0) q35, ?_⟩
    refine ⟨by decide, ?_⟩
    obtain ⟨q36, h⟩ := bget hx36 h
    refine ⟨s_osmosisref1_Table_Do_3 (d + 4) q36, ?_⟩
    refine ⟨by decide, ?_⟩
    refine ⟨fun hb => ?_, fun hb => ?_⟩
    · have h := cond_t hb h
      exact lfe_of h
    · have h := cond_f hb h
      obtain ⟨q37, h⟩ := bget hx37 h
      refine ⟨s_table_Right (d + 5) q37, ?_⟩
      obtain ⟨q38, h⟩ := bget hx38 h
      refine ⟨s_osmosisref1_RightOp (d + 5) q38, ?_⟩
      refine ⟨fun hb => ?_, fun hb => ?_⟩
      · have h := cond_t hb h
        exact lfe_of h
      · have h := cond_f hb h
        obtain ⟨q39, h⟩ := bget hx39 h
        refine ⟨s_table_Table_Len_2 (d + 5) q39, ?_⟩
        refine ⟨by decide, ?_⟩
        refine ⟨fun hb => ?_, fun hb => ?_⟩
        · have h := cond_t hb h
          exact lfe_of h
        · have h := cond_f hb h
          obtain ⟨q40, h⟩ := bget hx40 h
          refine ⟨s_table_Table_Pairs (d + 4) q40, ?_⟩
          refine ⟨by decide, ?_⟩
          obtain ⟨q41, h⟩ := bget hx41 h
          refine ⟨s_osmosislaw6_same (d + 5) q41, ?_⟩
          refine ⟨fun hb => ?_, fun hb => ?_⟩
          · have h := cond_t hb h
            exact lfe_of h
          · have h := cond_f hb h
            exact lfe_of h
  · have h := cond_f hb h
    exact lfe_of h
theorem s_osmosislaw6_TableTells_L1 (d : Nat) {ops : List osmosishand_RawOp} {s32 : Int × table_Table × osmosisref1_Table} {r : Unit ⊕ Unit} (h : osmosislaw6_TableTells_L1 ops s32 = some r) : RunX (bloop (bexec (wcalls atab (d + 6)) KK 79 WB15_1) [8, 9, 42, 43, 44] KK) 0 (inL [8, 9, 42, 43, 44] (st_osmosislaw6_TableTells_L1 ops s32)) (fin_osmosislaw6_TableTells_L1 ops r) :=
  loop_of (st := st_osmosislaw6_TableTells_L1 ops) (fin := fin_osmosislaw6_TableTells_L1 ops) (step := osmosislaw6_TableTells_L1_s ops) (fun e => by rcases e with e | e <;> (intro h; cases h)) (fun s x h => b_osmosislaw6_TableTells_L1 d h) KK s32 r h

def osmosislaw6_TableTells (ops : List osmosishand_RawOp) (first : List Int) : Option (Bool) :=
  (osmosislaw6_TableTells_L0 first ops (0, [])).bind fun (x20 : (List api_Pair)) => (table_Of x20).bind fun (x21 : table_Table) => (osmosisref1_TableOf x20).bind fun (x22 : osmosisref1_Table) => (osmosislaw6_TableTells_L1 ops (0, x21, x22)).bind fun (x42 : Unit ⊕ Unit) => cond (isL x42) (some false) ((osmosislaw6_known).bind fun (x44 : Bool) => some x44)
def out_osmosislaw6_TableTells (ops : List osmosishand_RawOp) (first : List Int) (r : Bool) : AV × WH := ((.bool r), [])

theorem s_osmosislaw6_TableTells (d : Nat) {ops : List osmosishand_RawOp} {first : List Int} {r : Bool} (h : osmosislaw6_TableTells ops first = some r) : Spec (wcalls atab (d + 8)) 15 [(l_osmosishand_RawOp ops), (l_I first)] [] (out_osmosislaw6_TableTells ops first r).1 (out_osmosislaw6_TableTells ops first r).2 := by
  obtain ⟨x20, hx20⟩ := wx (osmosislaw6_TableTells_L0 first ops (0, []))
  obtain ⟨x21, hx21⟩ := wx (table_Of x20)
  obtain ⟨x22, hx22⟩ := wx (osmosisref1_TableOf x20)
  obtain ⟨x42, hx42⟩ := wx (osmosislaw6_TableTells_L1 ops (0, x21, x22))
  obtain ⟨x44, hx44⟩ := wx (osmosislaw6_known)
  have e : ∀ C : ACalls, wBody C (fun _ => none) KK WF15 [(l_osmosishand_RawOp ops), (l_I first)] [] (.z 5 [.slice none 2 0 0 true] (.lp [none, (some true), none, none, none] [] [.slice none 8 0 0 true, .slice none 2 0 0 true, .undef, .undef, .undef] (.exit 0) [(0, (l_osmosishand_RawOp ops)), (5, (.acc 0 0 2 x20.length true))] [(some (.cells (F_api_Pair x20) false true))] (.call [] (some false) [.slice none 2 0 0 true] (.agg (e_table_Table x21)) [] (.z 8 [.slice none 2 0 0 true] (.st none (.call [] (some false) [.slice none 2 0 0 true] (.agg (e_osmosisref1_Table x22)) [] (.z 9 [.slice none 2 0 0 true] (.st none (.ite (isL x42) (.lp [none, none, none, none, none] [] [.undef, .undef, .slice none 8 0 0 true, .undef, .undef] .ret [(4, (.bool false))] [] (.fin (some false) [] none)) (.lp [none, none, none, none, none] [] [.undef, .undef, .slice none 8 0 0 true, .undef, .undef] (.exit 2) [] [] (.cb [] [] (.bool x44) (.fin (some false) [] none)))))))))))) (out_osmosislaw6_TableTells ops first r).1 (out_osmosislaw6_TableTells ops first r).2 = (2 = 2 ∧ 2 ≤ 79 ∧ (RunS (bloop (bexec C KK 79 WB15_0) [0, 5, 13, 14, 15] KK) 0 [(0, (l_osmosishand_RawOp ops)), (5, (.acc 0 0 2 0 true)), (13, (l_I first)), (14, (.int .i64 (first.length : Int))), (15, (.int .i64 0))] [(some (.cells (F_api_Pair []) false true))] (.exit 0) [(0, (l_osmosishand_RawOp ops)), (5, (.acc 0 0 2 x20.length true))] [(some (.cells (F_api_Pair x20) false true))] ∧ (Spec C 56 [(l_api_Pair x20)] [] (.agg (e_table_Table x21)) [] ∧ (0 ≤ 0 ∧ (Spec C 60 [(l_api_Pair x20)] [] (.agg (e_osmosisref1_Table x22)) [] ∧ (0 ≤ 0 ∧ (((isL x42) = true → (RunS (bloop (bexec C KK 79 WB15_1) [8, 9, 42, 43, 44] KK) 0 [(8, (.ptr (some (0, 0)))), (9, (.ptr (some (1, 0)))), (42, (l_osmosishand_RawOp ops)), (43, (.int .i64 (ops.length : Int))), (44, (.int .i64 0))] [(some (.cells (e_table_Table x21) false false)), (some (.cells (e_osmosisref1_Table x22) false false))] .ret [(4, (.bool false))] [] ∧ lff (out_osmosislaw6_TableTells ops first) false r)) ∧ ((isL x42) = false → (RunS (bloop (bexec C KK 79 WB15_1) [8, 9, 42, 43, 44] KK) 0 [(8, (.ptr (some (0, 0)))), (9, (.ptr (some (1, 0)))), (42, (l_osmosishand_RawOp ops)), (43, (.int .i64 (ops.length : Int))), (44, (.int .i64 0))] [(some (.cells (e_table_Table x21) false false)), (some (.cells (e_osmosisref1_Table x22) false false))] (.exit 2) [] [] ∧ (Spec C 55 [] [] (.bool x44) [] ∧ lff (out_osmosislaw6_TableTells ops first) x44 r)))))))))) := fun C => by kernel_rfl
  refine spec_of (fun _ _ h => by cases h) rfl atab_15 WF15_ok ((e _).mpr ⟨rfl, by decide, ?_⟩)
  unfold osmosislaw6_TableTells at h
  obtain ⟨q20, h⟩ := bget hx20 h
  refine ⟨s_osmosislaw6_TableTells_L0 (d + 5) q20, ?_⟩
  obtain ⟨q21, h⟩ := bget hx21 h
  refine ⟨s_table_Of (d + 0) q21, ?_⟩
  refine ⟨by decide, ?_⟩
  obtain ⟨q22, h⟩ := bget hx22 h
  refine ⟨s_osmosisref1_TableOf (d + 4) q22, ?_⟩
  refine ⟨by decide, ?_⟩
  obtain ⟨q42, h⟩ := bget hx42 h
  refine ⟨fun hb43 => ?_, fun hb43 => ?_⟩
  · have h := cond_t hb43 h
    refine ⟨by have h := s_osmosislaw6_TableTells_L1 (d + 1) q42; rw [isL_t hb43] at h; exact h, ?_⟩
    exact lff_of h
  · have h := cond_f hb43 h
    refine ⟨by have h := s_osmosislaw6_TableTells_L1 (d + 1) q42; rw [isL_f hb43] at h; exact h, ?_⟩
    obtain ⟨q44, h⟩ := bget hx44 h
    refine ⟨s_osmosislaw6_known (d + 0) q44, ?_⟩
    exact lff_of h

end Go.Proofs.Ytachollgbplikaa
