/- Functions as Lean functions, part 2. -/
import Derived.Test.YtachollgbplikaaXt
import Derived.Test.YtachollgbplikaaXs
import Derived.Test.YtachollgbplikaaY1
set_option linter.all false
set_option maxRecDepth 100000
namespace Go.Proofs.Ytachollgbplikaa
/- osmosis/osmosisref1.Sum -/
def st_osmosisref1_Sum_L0 (parts : List (List UInt8)) (s12 : Int × Int) (s17 : Int × Int) : List AV × WH := ([(l_S parts), (.int .u64 s17.1), (.int .i64 s12.2), (.int .i64 s17.2)], [])
def fin_osmosisref1_Sum_L0 (parts : List (List UInt8)) (s12 : Int × Int) : Int → Ex × Fast × WH := fun e => ((.exit 2), [(0, (l_S parts)), (3, (.int .u64 e)), (4, (.int .i64 s12.2))], [])
abbrev rx_osmosisref1_Sum_L0 (parts : List (List UInt8)) (s12 : Int × Int) := roundX [0, 3, 4, 5] (st_osmosisref1_Sum_L0 parts s12) (fin_osmosisref1_Sum_L0 parts s12)
def osmosisref1_Sum_L0_s (parts : List (List UInt8)) (s12 : Int × Int) (s17 : Int × Int) : Option ((Int × Int) ⊕ (Int)) :=
  (getI parts s12.2).bind fun (x18 : List UInt8) => cond (decide (s17.2 < (x18.length : Int))) ((getI parts s12.2).bind fun (x19 : List UInt8) => (getI x19 s17.2).bind fun (x20 : UInt8) => (osmosisref1_step s17.1 (IntKind.u64.wrap (x20.toNat : Int))).bind fun (x21 : Int) => some (.inl (x21, (IntKind.i64.wrap (s17.2 + 1))))) (some (.inr s17.1))
def osmosisref1_Sum_L0 (parts : List (List UInt8)) (s12 : Int × Int) (s17 : Int × Int) : Option (Int) := loopX (osmosisref1_Sum_L0_s parts s12) KK s17
theorem b_osmosisref1_Sum_L0 (d : Nat) {parts : List (List UInt8)} {s12 : Int × Int} {s17 : Int × Int} {r : (Int × Int) ⊕ (Int)} (h : osmosisref1_Sum_L0_s parts s12 s17 = some r) : RunX (bexec (wcalls atab (d + 1)) KK 33 WB89_1) 0 (inL [0, 3, 4, 5] (st_osmosisref1_Sum_L0 parts s12 s17)) (rx_osmosisref1_Sum_L0 parts s12 r) := by
  obtain ⟨x18, hx18⟩ := wx (getI parts s12.2)
  obtain ⟨x19, hx19⟩ := wx (getI parts s12.2)
  obtain ⟨x20, hx20⟩ := wx (getI x19 s17.2)
  obtain ⟨x21, hx21⟩ := wx (osmosisref1_step s17.1 (IntKind.u64.wrap (x20.toNat : Int)))
  have e : ∀ C : ACalls, wCode C (fun _ => none) KK 33 0 WB89_1 (inL [0, 3, 4, 5] (st_osmosisref1_Sum_L0 parts s12 s17)).1 (inL [0, 3, 4, 5] (st_osmosisref1_Sum_L0 parts s12 s17)).2 (.v 15 (.elem ([(.str x18)] ++ F_S (parts.drop (s12.2.toNat + 1)))) (.br 18 (.v 24 (.elem ([(.str x19)] ++ F_S (parts.drop (s12.2.toNat + 1)))) (.v 27 (.int .u8 (x20.toNat : Int)) (.cb [] [] (.int .u64 x21) (.en [0, 3, 4, 5] [none, none, none, none] [] [])))) (.en [0, 3, 4] [none, none, none] [] []))) (rx_osmosisref1_Sum_L0 parts s12 r) = (wP (.idxSlice 1 (.c (l_S parts)) (.c (.int .i64 s12.2))) = some (.elem ([(.str x18)] ++ F_S (parts.drop (s12.2.toNat + 1)))) ∧ (((decide (s17.2 < (x18.length : Int))) = true → (wP (.idxSlice 1 (.c (l_S parts)) (.c (.int .i64 s12.2))) = some (.elem ([(.str x19)] ++ F_S (parts.drop (s12.2.toNat + 1)))) ∧ (wP (.indexStr (.c (.str x19)) (.c (.int .i64 s17.2))) = some (.int .u8 x20.toNat) ∧ (Spec C 122 [(.int .u64 s17.1), (.int .u64 (IntKind.u64.wrap (x20.toNat : Int)))] [] (.int .u64 x21) [] ∧ lfe (rx_osmosisref1_Sum_L0 parts s12) (.inl (x21, (IntKind.i64.wrap (s17.2 + 1)))) r)))) ∧ ((decide (s17.2 < (x18.length : Int))) = false → lfe (rx_osmosisref1_Sum_L0 parts s12) (.inr s17.1) r))) := fun C => by kernel_rfl
  refine runS_of (fun _ _ h => by cases h) WB89_1_ok (Nat.le_of_ble_eq_true rfl) ((e _).mpr ?_)
  unfold osmosisref1_Sum_L0_s at h
  obtain ⟨q18, h⟩ := bget hx18 h
  refine ⟨wP_idx R_S q18, ?_⟩
  refine ⟨fun hb => ?_, fun hb => ?_⟩
  · have h := cond_t hb h
    obtain ⟨q19, h⟩ := bget hx19 h
    refine ⟨wP_idx R_S q19, ?_⟩
    obtain ⟨q20, h⟩ := bget hx20 h
    refine ⟨wP_iS q20, ?_⟩
    obtain ⟨q21, h⟩ := bget hx21 h
    refine ⟨s_osmosisref1_step (d + 0) q21, ?_⟩
    exact lfe_of h
  · have h := cond_f hb h
    exact lfe_of h
theorem s_osmosisref1_Sum_L0 (d : Nat) {parts : List (List UInt8)} {s12 : Int × Int} {s17 : Int × Int} {r : Int} (h : osmosisref1_Sum_L0 parts s12 s17 = some r) : RunX (bloop (bexec (wcalls atab (d + 1)) KK 33 WB89_1) [0, 3, 4, 5] KK) 0 (inL [0, 3, 4, 5] (st_osmosisref1_Sum_L0 parts s12 s17)) (fin_osmosisref1_Sum_L0 parts s12 r) :=
  loop_of (st := st_osmosisref1_Sum_L0 parts s12) (fin := fin_osmosisref1_Sum_L0 parts s12) (step := osmosisref1_Sum_L0_s parts s12) (fun e => by (intro h; cases h)) (fun s x h => b_osmosisref1_Sum_L0 d h) KK s17 r h

def st_osmosisref1_Sum_L1 (parts : List (List UInt8)) (s12 : Int × Int) : List AV × WH := ([(l_S parts), (.int .u64 s12.1), (.int .i64 s12.2)], [])
def fin_osmosisref1_Sum_L1 (parts : List (List UInt8)) : Int → Ex × Fast × WH := fun e => ((.exit 0), [(3, (.int .u64 e))], [])
abbrev rx_osmosisref1_Sum_L1 (parts : List (List UInt8)) := roundX [0, 3, 4] (st_osmosisref1_Sum_L1 parts) (fin_osmosisref1_Sum_L1 parts)
def osmosisref1_Sum_L1_s (parts : List (List UInt8)) (s12 : Int × Int) : Option ((Int × Int) ⊕ (Int)) :=
  cond (decide (s12.2 < (parts.length : Int))) ((osmosisref1_Sum_L0 parts s12 (s12.1, 0)).bind fun (x22 : Int) => (osmosisref1_step x22 256).bind fun (x23 : Int) => some (.inl (x23, (IntKind.i64.wrap (s12.2 + 1))))) (some (.inr s12.1))
def osmosisref1_Sum_L1 (parts : List (List UInt8)) (s12 : Int × Int) : Option (Int) := loopX (osmosisref1_Sum_L1_s parts) KK s12
theorem b_osmosisref1_Sum_L1 (d : Nat) {parts : List (List UInt8)} {s12 : Int × Int} {r : (Int × Int) ⊕ (Int)} (h : osmosisref1_Sum_L1_s parts s12 = some r) : RunX (bexec (wcalls atab (d + 1)) KK 33 WB89_0) 0 (inL [0, 3, 4] (st_osmosisref1_Sum_L1 parts s12)) (rx_osmosisref1_Sum_L1 parts r) := by
  obtain ⟨x22, hx22⟩ := wx (osmosisref1_Sum_L0 parts s12 (s12.1, 0))
  obtain ⟨x23, hx23⟩ := wx (osmosisref1_step x22 256)
  have e : ∀ C : ACalls, wCode C (fun _ => none) KK 33 0 WB89_0 (inL [0, 3, 4] (st_osmosisref1_Sum_L1 parts s12)).1 (inL [0, 3, 4] (st_osmosisref1_Sum_L1 parts s12)).2 (.br 9 (.lp [none, none, none, none] [] [] (.exit 2) [(0, (l_S parts)), (3, (.int .u64 x22)), (4, (.int .i64 s12.2))] [] (.cb [] [] (.int .u64 x23) (.en [0, 3, 4] [none, none, none] [] []))) (.en [3] [none] [] [])) (rx_osmosisref1_Sum_L1 parts r) = (((decide (s12.2 < (parts.length : Int))) = true → (RunS (bloop (bexec C KK 33 WB89_1) [0, 3, 4, 5] KK) 0 [(0, (l_S parts)), (3, (.int .u64 s12.1)), (4, (.int .i64 s12.2)), (5, (.int .i64 0))] [] (.exit 2) [(0, (l_S parts)), (3, (.int .u64 x22)), (4, (.int .i64 s12.2))] [] ∧ (Spec C 122 [(.int .u64 x22), (.int .u64 256)] [] (.int .u64 x23) [] ∧ lfe (rx_osmosisref1_Sum_L1 parts) (.inl (x23, (IntKind.i64.wrap (s12.2 + 1)))) r))) ∧ ((decide (s12.2 < (parts.length : Int))) = false → lfe (rx_osmosisref1_Sum_L1 parts) (.inr s12.1) r)) := fun C => by kernel_rfl
  refine runS_of (fun _ _ h => by cases h) WB89_0_ok (Nat.le_of_ble_eq_true rfl) ((e _).mpr ?_)
  unfold osmosisref1_Sum_L1_s at h
  refine ⟨fun hb => ?_, fun hb => ?_⟩
  · have h := cond_t hb h
    obtain ⟨q22, h⟩ := bget hx22 h
    refine ⟨s_osmosisref1_Sum_L0 (d + 0) q22, ?_⟩
    obtain ⟨q23, h⟩ := bget hx23 h
    refine ⟨s_osmosisref1_step (d + 0) q23, ?_⟩
    exact lfe_of h
  · have h := cond_f hb h
    exact lfe_of h
theorem s_osmosisref1_Sum_L1 (d : Nat) {parts : List (List UInt8)} {s12 : Int × Int} {r : Int} (h : osmosisref1_Sum_L1 parts s12 = some r) : RunX (bloop (bexec (wcalls atab (d + 1)) KK 33 WB89_0) [0, 3, 4] KK) 0 (inL [0, 3, 4] (st_osmosisref1_Sum_L1 parts s12)) (fin_osmosisref1_Sum_L1 parts r) :=
  loop_of (st := st_osmosisref1_Sum_L1 parts) (fin := fin_osmosisref1_Sum_L1 parts) (step := osmosisref1_Sum_L1_s parts) (fun e => by (intro h; cases h)) (fun s x h => b_osmosisref1_Sum_L1 d h) KK s12 r h

def osmosisref1_Sum (parts : List (List UInt8)) : Option (Int) :=
  (osmosisref1_Sum_L1 parts (14695981039346656037, 0)).bind fun (x24 : Int) => some x24
def out_osmosisref1_Sum (parts : List (List UInt8)) (r : Int) : AV × WH := ((.int .u64 r), [])

theorem s_osmosisref1_Sum (d : Nat) {parts : List (List UInt8)} {r : Int} (h : osmosisref1_Sum parts = some r) : Spec (wcalls atab (d + 2)) 89 [(l_S parts)] [] (out_osmosisref1_Sum parts r).1 (out_osmosisref1_Sum parts r).2 := by
  obtain ⟨x24, hx24⟩ := wx (osmosisref1_Sum_L1 parts (14695981039346656037, 0))
  have e : ∀ C : ACalls, wBody C (fun _ => none) KK WF89 [(l_S parts)] [] (.lp [none, none, none] [] [] (.exit 0) [(3, (.int .u64 x24))] [] (.fin (some false) [] none)) (out_osmosisref1_Sum parts r).1 (out_osmosisref1_Sum parts r).2 = (1 = 1 ∧ 1 ≤ 33 ∧ (RunS (bloop (bexec C KK 33 WB89_0) [0, 3, 4] KK) 0 [(0, (l_S parts)), (3, (.int .u64 14695981039346656037)), (4, (.int .i64 0))] [] (.exit 0) [(3, (.int .u64 x24))] [] ∧ lff (out_osmosisref1_Sum parts) x24 r)) := fun C => by kernel_rfl
  refine spec_of (fun _ _ h => by cases h) rfl atab_89 WF89_ok ((e _).mpr ⟨rfl, by decide, ?_⟩)
  unfold osmosisref1_Sum at h
  obtain ⟨q24, h⟩ := bget hx24 h
  refine ⟨s_osmosisref1_Sum_L1 (d + 0) q24, ?_⟩
  exact lff_of h

/- osmosis/osmosisref1.eight -/
def st_osmosisref1_eight_L0  (s3 : Int × Int × List UInt8) : List AV × WH := ([(.int .u64 s3.1), (.acc 0 0 1 s3.2.2.length true), (.int .i64 s3.2.1)], [(some (.cells (F_B s3.2.2) false true))])
def fin_osmosisref1_eight_L0  : (List UInt8) → Ex × Fast × WH := fun e => ((.exit 0), [(3, (.acc 0 0 1 e.length true))], [(some (.cells (F_B e) false true))])
abbrev rx_osmosisref1_eight_L0  := roundX [0, 3, 4] (st_osmosisref1_eight_L0) (fin_osmosisref1_eight_L0)
def osmosisref1_eight_L0_s  (s3 : Int × Int × List UInt8) : Option ((Int × Int × List UInt8) ⊕ ((List UInt8))) :=
  cond (decide (s3.2.1 ≥ 0)) ((getI s3.2.2 s3.2.1).bind fun (x4 : UInt8) => some (.inl ((IntKind.u64.wrap (Int.tdiv s3.1 256)), (IntKind.i64.wrap (s3.2.1 - 1)), (s3.2.2.set s3.2.1.toNat (u8w (Int.tmod s3.1 256)))))) (some (.inr s3.2.2))
def osmosisref1_eight_L0  (s3 : Int × Int × List UInt8) : Option ((List UInt8)) := loopX (osmosisref1_eight_L0_s) KK s3
theorem b_osmosisref1_eight_L0 (d : Nat)  {s3 : Int × Int × List UInt8} {r : (Int × Int × List UInt8) ⊕ ((List UInt8))} (h : osmosisref1_eight_L0_s s3 = some r) : RunX (bexec (wcalls atab (d + 0)) KK 19 WB88_0) 0 (inL [0, 3, 4] (st_osmosisref1_eight_L0 s3)) (rx_osmosisref1_eight_L0 r) := by
  obtain ⟨x4, hx4⟩ := wx (getI s3.2.2 s3.2.1)
  have e : ∀ C : ACalls, wCode C (fun _ => none) KK 19 0 WB88_0 (inL [0, 3, 4] (st_osmosisref1_eight_L0 s3)).1 (inL [0, 3, 4] (st_osmosisref1_eight_L0 s3)).2 (.br 7 (.v 14 (.int .u8 ((u8w (Int.tmod s3.1 256)).toNat : Int)) (.v 15 (.ptr (some (0, 0 + s3.2.1.toNat * 1))) (.st (some (F_B (s3.2.2.set s3.2.1.toNat (u8w (Int.tmod s3.1 256))))) (.en [0, 3, 4] [none, none, none] [] [])))) (.en [3] [none] [] [])) (rx_osmosisref1_eight_L0 r) = (((decide (s3.2.1 ≥ 0)) = true → (@Eq (Option AV) (some (.int .u8 (IntKind.u8.wrap (Int.tmod s3.1 256)))) (some (.int .u8 ((u8w (Int.tmod s3.1 256)).toNat : Int))) ∧ (wP (.idxSlice 1 (.c (.acc 0 0 1 s3.2.2.length true)) (.c (.int .i64 s3.2.1))) = some (.ptr (some (0, 0 + s3.2.1.toNat * 1))) ∧ (wrC (F_B s3.2.2) (0 + s3.2.1.toNat * 1) [(.int .u8 ((u8w (Int.tmod s3.1 256)).toNat : Int))] = some (F_B (s3.2.2.set s3.2.1.toNat (u8w (Int.tmod s3.1 256)))) ∧ (.normal = (rx_osmosisref1_eight_L0 r).1 ∧ [(0, (.int .u64 (IntKind.u64.wrap (Int.tdiv s3.1 256)))), (3, (.acc 0 0 1 s3.2.2.length true)), (4, (.int .i64 (IntKind.i64.wrap (s3.2.1 - 1))))] = (rx_osmosisref1_eight_L0 r).2.1 ∧ [(some (.cells (F_B (s3.2.2.set s3.2.1.toNat (u8w (Int.tmod s3.1 256)))) false true))] = (rx_osmosisref1_eight_L0 r).2.2))))) ∧ ((decide (s3.2.1 ≥ 0)) = false → lfe rx_osmosisref1_eight_L0 (.inr s3.2.2) r)) := fun C => by kernel_rfl
  refine runS_of (fun _ _ h => by cases h) WB88_0_ok (Nat.le_of_ble_eq_true rfl) ((e _).mpr ?_)
  unfold osmosisref1_eight_L0_s at h
  refine ⟨fun hb => ?_, fun hb => ?_⟩
  · have h := cond_t hb h
    refine ⟨u8_w _, ?_⟩
    obtain ⟨q4, h⟩ := bget hx4 h
    refine ⟨wP_idxA R_B q4, ?_⟩
    refine ⟨wr_row (o := 0) R_B q4 rfl, ?_⟩
    try rw [show AV.list 1 s3.2.2.length (F_B (s3.2.2.set s3.2.1.toNat (u8w (Int.tmod s3.1 256)))) false = l_B (s3.2.2.set s3.2.1.toNat (u8w (Int.tmod s3.1 256))) from by simp only [l_B, List.length_set]]
    obtain rfl := Option.some.inj h
    refine ⟨rfl, ?_, ?_⟩ <;> first | rfl | (simp only [rx_osmosisref1_eight_L0, roundX, zipKeep, fin_osmosisref1_eight_L0, st_osmosisref1_eight_L0, List.length_set, List.length_append, List.length_replicate, List.length_cons, List.length_nil, Nat.add_zero, Nat.zero_add]; done) | simp [rx_osmosisref1_eight_L0, roundX, zipKeep, fin_osmosisref1_eight_L0, st_osmosisref1_eight_L0]
  · have h := cond_f hb h
    exact lfe_of h
theorem s_osmosisref1_eight_L0 (d : Nat)  {s3 : Int × Int × List UInt8} {r : (List UInt8)} (h : osmosisref1_eight_L0 s3 = some r) : RunX (bloop (bexec (wcalls atab (d + 0)) KK 19 WB88_0) [0, 3, 4] KK) 0 (inL [0, 3, 4] (st_osmosisref1_eight_L0 s3)) (fin_osmosisref1_eight_L0 r) :=
  loop_of (st := st_osmosisref1_eight_L0) (fin := fin_osmosisref1_eight_L0) (step := osmosisref1_eight_L0_s) (fun e => by (intro h; cases h)) (fun s x h => b_osmosisref1_eight_L0 d h) KK s3 r h

def osmosisref1_eight (p_h : Int) : Option (List UInt8) :=
  gd (makeB 1 8) ((osmosisref1_eight_L0 (p_h, 7, (List.replicate 8 ((0 : UInt8) : UInt8)))).bind fun (x5 : (List UInt8)) => some x5)
def out_osmosisref1_eight (p_h : Int) (r : List UInt8) : AV × WH := ((l_B r), [])

theorem s_osmosisref1_eight (d : Nat) {p_h : Int} {r : List UInt8} (h : osmosisref1_eight p_h = some r) : Spec (wcalls atab (d + 1)) 88 [(.int .u64 p_h)] [] (out_osmosisref1_eight p_h r).1 (out_osmosisref1_eight p_h r).2 := by
  obtain ⟨x5, hx5⟩ := wx (osmosisref1_eight_L0 (p_h, 7, (List.replicate 8 ((0 : UInt8) : UInt8))))
  have e : ∀ C : ACalls, wBody C (fun _ => none) KK WF88 [(.int .u64 p_h)] [] (.ap 5 8 (F_B (List.replicate 8 ((0 : UInt8) : UInt8))) (.lp [none, none, none] [] [] (.exit 0) [(3, (.acc 0 0 1 x5.length true))] [(some (.cells (F_B x5) false true))] (.fin (some false) [] none))) (out_osmosisref1_eight p_h r).1 (out_osmosisref1_eight p_h r).2 = (1 = 1 ∧ 1 ≤ 19 ∧ (wMk (.int .i64 8) (.int .i64 8) 8 1 ∧ (reps 8 [(.int .u8 0)] = F_B (List.replicate 8 ((0 : UInt8) : UInt8)) ∧ (RunS (bloop (bexec C KK 19 WB88_0) [0, 3, 4] KK) 0 [(0, (.int .u64 p_h)), (3, (.acc 0 0 1 8 true)), (4, (.int .i64 7))] [(some (.cells (F_B (List.replicate 8 ((0 : UInt8) : UInt8))) false true))] (.exit 0) [(3, (.acc 0 0 1 x5.length true))] [(some (.cells (F_B x5) false true))] ∧ lff (out_osmosisref1_eight p_h) x5 r)))) := fun C => by kernel_rfl
  refine spec_of (fun _ _ h => by cases h) rfl atab_88 WF88_ok ((e _).mpr ⟨rfl, by decide, ?_⟩)
  unfold osmosisref1_eight at h
  obtain ⟨q1, h⟩ := gd_some h
  refine ⟨wMk_of (n := 8) q1, ?_⟩
  refine ⟨reps_row (x := ((0 : UInt8) : UInt8)) R_B rfl _, ?_⟩
  obtain ⟨q5, h⟩ := bget hx5 h
  refine ⟨s_osmosisref1_eight_L0 (d + 0) q5, ?_⟩
  exact lff_of h

/- osmosis/osmosisref1.Put -/
def st_osmosisref1_Put_3_L0 (l : List Int) (s9 : Int × List UInt8) (s13 : Int × List UInt8) : List AV × WH := ([(l_I l), (.acc 0 0 1 s13.2.length true), (.int .i64 s9.1), (.int .i64 s13.1)], [(some (.cells (F_B s13.2) false true))])
def fin_osmosisref1_Put_3_L0 (l : List Int) (s9 : Int × List UInt8) : (Int × List UInt8) → Ex × Fast × WH := fun e => ((.exit 2), [(1, (l_I l)), (5, (.acc 0 0 1 e.2.length true)), (6, (.int .i64 s9.1)), (7, (.int .i64 e.1))], [(some (.cells (F_B e.2) false true))])
abbrev rx_osmosisref1_Put_3_L0 (l : List Int) (s9 : Int × List UInt8) := roundX [1, 5, 6, 7] (st_osmosisref1_Put_3_L0 l s9) (fin_osmosisref1_Put_3_L0 l s9)
def osmosisref1_Put_3_L0_s (l : List Int) (s9 : Int × List UInt8) (s13 : Int × List UInt8) : Option ((Int × List UInt8) ⊕ ((Int × List UInt8))) :=
  cond (decide (s13.1 ≥ 128)) (gd (fitsB 1 (s13.2 ++ [(u8w (IntKind.i64.wrap (128 + (Int.tmod s13.1 128))))]).length) (some (.inl ((IntKind.i64.wrap (Int.tdiv s13.1 128)), (s13.2 ++ [(u8w (IntKind.i64.wrap (128 + (Int.tmod s13.1 128))))]))))) (some (.inr (s13.1, s13.2)))
def osmosisref1_Put_3_L0 (l : List Int) (s9 : Int × List UInt8) (s13 : Int × List UInt8) : Option ((Int × List UInt8)) := loopX (osmosisref1_Put_3_L0_s l s9) KK s13
theorem b_osmosisref1_Put_3_L0 (d : Nat) {l : List Int} {s9 : Int × List UInt8} {s13 : Int × List UInt8} {r : (Int × List UInt8) ⊕ ((Int × List UInt8))} (h : osmosisref1_Put_3_L0_s l s9 s13 = some r) : RunX (bexec (wcalls atab (d + 0)) KK 41 WB87_1) 0 (inL [1, 5, 6, 7] (st_osmosisref1_Put_3_L0 l s9 s13)) (rx_osmosisref1_Put_3_L0 l s9 r) := by
  have e : ∀ C : ACalls, wCode C (fun _ => none) KK 41 0 WB87_1 (inL [1, 5, 6, 7] (st_osmosisref1_Put_3_L0 l s9 s13)).1 (inL [1, 5, 6, 7] (st_osmosisref1_Put_3_L0 l s9 s13)).2 (.br 25 (.v 30 (.int .u8 ((u8w (IntKind.i64.wrap (128 + (Int.tmod s13.1 128)))).toNat : Int)) (.ap 32 (s13.2 ++ [(u8w (IntKind.i64.wrap (128 + (Int.tmod s13.1 128))))]).length (F_B (s13.2 ++ [(u8w (IntKind.i64.wrap (128 + (Int.tmod s13.1 128))))])) (.en [1, 5, 6, 7] [none, none, none, none] [] []))) (.en [1, 5, 6, 7] [none, none, none, none] [] [])) (rx_osmosisref1_Put_3_L0 l s9 r) = (((decide (s13.1 ≥ 128)) = true → (@Eq (Option AV) (some (.int .u8 (IntKind.u8.wrap (IntKind.i64.wrap (128 + (Int.tmod s13.1 128)))))) (some (.int .u8 ((u8w (IntKind.i64.wrap (128 + (Int.tmod s13.1 128)))).toNat : Int))) ∧ (s13.2.length + 1 = (s13.2 ++ [(u8w (IntKind.i64.wrap (128 + (Int.tmod s13.1 128))))]).length ∧ (F_B s13.2 ++ F_B ([(u8w (IntKind.i64.wrap (128 + (Int.tmod s13.1 128))))]) = F_B (s13.2 ++ [(u8w (IntKind.i64.wrap (128 + (Int.tmod s13.1 128))))]) ∧ (fitsB 1 (s13.2 ++ [(u8w (IntKind.i64.wrap (128 + (Int.tmod s13.1 128))))]).length = true ∧ lfe (rx_osmosisref1_Put_3_L0 l s9) (.inl ((IntKind.i64.wrap (Int.tdiv s13.1 128)), (s13.2 ++ [(u8w (IntKind.i64.wrap (128 + (Int.tmod s13.1 128))))]))) r))))) ∧ ((decide (s13.1 ≥ 128)) = false → lfe (rx_osmosisref1_Put_3_L0 l s9) (.inr (s13.1, s13.2)) r)) := fun C => by kernel_rfl
  refine runS_of (fun _ _ h => by cases h) WB87_1_ok (Nat.le_of_ble_eq_true rfl) ((e _).mpr ?_)
  unfold osmosisref1_Put_3_L0_s at h
  refine ⟨fun hb => ?_, fun hb => ?_⟩
  · have h := cond_t hb h
    refine ⟨u8_w _, ?_⟩
    obtain ⟨q14, h⟩ := gd_some h
    refine ⟨by simp, ?_⟩
    refine ⟨(Row.app R_B _ _).symm, ?_⟩
    refine ⟨q14, ?_⟩
    exact lfe_of h
  · have h := cond_f hb h
    exact lfe_of h
theorem s_osmosisref1_Put_3_L0 (d : Nat) {l : List Int} {s9 : Int × List UInt8} {s13 : Int × List UInt8} {r : (Int × List UInt8)} (h : osmosisref1_Put_3_L0 l s9 s13 = some r) : RunX (bloop (bexec (wcalls atab (d + 0)) KK 41 WB87_1) [1, 5, 6, 7] KK) 0 (inL [1, 5, 6, 7] (st_osmosisref1_Put_3_L0 l s9 s13)) (fin_osmosisref1_Put_3_L0 l s9 r) :=
  loop_of (st := st_osmosisref1_Put_3_L0 l s9) (fin := fin_osmosisref1_Put_3_L0 l s9) (step := osmosisref1_Put_3_L0_s l s9) (fun e => by (intro h; cases h)) (fun s x h => b_osmosisref1_Put_3_L0 d h) KK s13 r h

def st_osmosisref1_Put_3_L1 (l : List Int) (s9 : Int × List UInt8) : List AV × WH := ([(l_I l), (.acc 0 0 1 s9.2.length true), (.int .i64 s9.1)], [(some (.cells (F_B s9.2) false true))])
def fin_osmosisref1_Put_3_L1 (l : List Int) : Unit ⊕ (List UInt8) → Ex × Fast × WH := fun
  | .inl e => (.ret, [(4, (.slice none 1 0 0 true))], [])
  | .inr e => ((.exit 0), [(5, (.acc 0 0 1 e.length true))], [(some (.cells (F_B e) false true))])
abbrev rx_osmosisref1_Put_3_L1 (l : List Int) := roundX [1, 5, 6] (st_osmosisref1_Put_3_L1 l) (fin_osmosisref1_Put_3_L1 l)
def osmosisref1_Put_3_L1_s (l : List Int) (s9 : Int × List UInt8) : Option ((Int × List UInt8) ⊕ (Unit ⊕ (List UInt8))) :=
  cond (decide (s9.1 < (l.length : Int))) ((getI l s9.1).bind fun (x10 : Int) => (osmosisref1_May x10).bind fun (x11 : Bool) => cond (!x11) (some (.inr (.inl ()))) ((osmosisref1_Put_3_L0 l s9 (x10, s9.2)).bind fun (x15 : (Int × List UInt8)) => gd (fitsB 1 (x15.2 ++ [(u8w x15.1)]).length) (some (.inl ((IntKind.i64.wrap (s9.1 + 1)), (x15.2 ++ [(u8w x15.1)])))))) (some (.inr (.inr s9.2)))
def osmosisref1_Put_3_L1 (l : List Int) (s9 : Int × List UInt8) : Option (Unit ⊕ (List UInt8)) := loopX (osmosisref1_Put_3_L1_s l) KK s9
theorem b_osmosisref1_Put_3_L1 (d : Nat) {l : List Int} {s9 : Int × List UInt8} {r : (Int × List UInt8) ⊕ (Unit ⊕ (List UInt8))} (h : osmosisref1_Put_3_L1_s l s9 = some r) : RunX (bexec (wcalls atab (d + 1)) KK 41 WB87_0) 0 (inL [1, 5, 6] (st_osmosisref1_Put_3_L1 l s9)) (rx_osmosisref1_Put_3_L1 l r) := by
  obtain ⟨x10, hx10⟩ := wx (getI l s9.1)
  obtain ⟨x11, hx11⟩ := wx (osmosisref1_May x10)
  obtain ⟨x15, hx15⟩ := wx (osmosisref1_Put_3_L0 l s9 (x10, s9.2))
  have e : ∀ C : ACalls, wCode C (fun _ => none) KK 41 0 WB87_0 (inL [1, 5, 6] (st_osmosisref1_Put_3_L1 l s9)).1 (inL [1, 5, 6] (st_osmosisref1_Put_3_L1 l s9)).2 (.br 14 (.v 19 (.elem ([(.int .i64 x10)] ++ F_I (l.drop (s9.1.toNat + 1)))) (.cb [] [] (.bool x11) (.br 23 (.en [4] [none] [] []) (.lp [none, none, none, none] [] [] (.exit 2) [(1, (l_I l)), (5, (.acc 0 0 1 x15.2.length true)), (6, (.int .i64 s9.1)), (7, (.int .i64 x15.1))] [(some (.cells (F_B x15.2) false true))] (.v 37 (.int .u8 ((u8w x15.1).toNat : Int)) (.ap 39 (x15.2 ++ [(u8w x15.1)]).length (F_B (x15.2 ++ [(u8w x15.1)])) (.en [1, 5, 6] [none, none, none] [] []))))))) (.en [5] [none] [] [])) (rx_osmosisref1_Put_3_L1 l r) = (((decide (s9.1 < (l.length : Int))) = true → (wP (.idxSlice 1 (.c (l_I l)) (.c (.int .i64 s9.1))) = some (.elem ([(.int .i64 x10)] ++ F_I (l.drop (s9.1.toNat + 1)))) ∧ (Spec C 121 [(.int .i64 x10)] [] (.bool x11) [] ∧ (((!x11) = true → lfe (rx_osmosisref1_Put_3_L1 l) (.inr (.inl ())) r) ∧ ((!x11) = false → (RunS (bloop (bexec C KK 41 WB87_1) [1, 5, 6, 7] KK) 0 [(1, (l_I l)), (5, (.acc 0 0 1 s9.2.length true)), (6, (.int .i64 s9.1)), (7, (.int .i64 x10))] [(some (.cells (F_B s9.2) false true))] (.exit 2) [(1, (l_I l)), (5, (.acc 0 0 1 x15.2.length true)), (6, (.int .i64 s9.1)), (7, (.int .i64 x15.1))] [(some (.cells (F_B x15.2) false true))] ∧ (@Eq (Option AV) (some (.int .u8 (IntKind.u8.wrap x15.1))) (some (.int .u8 ((u8w x15.1).toNat : Int))) ∧ (x15.2.length + 1 = (x15.2 ++ [(u8w x15.1)]).length ∧ (F_B x15.2 ++ F_B ([(u8w x15.1)]) = F_B (x15.2 ++ [(u8w x15.1)]) ∧ (fitsB 1 (x15.2 ++ [(u8w x15.1)]).length = true ∧ lfe (rx_osmosisref1_Put_3_L1 l) (.inl ((IntKind.i64.wrap (s9.1 + 1)), (x15.2 ++ [(u8w x15.1)]))) r)))))))))) ∧ ((decide (s9.1 < (l.length : Int))) = false → lfe (rx_osmosisref1_Put_3_L1 l) (.inr (.inr s9.2)) r)) := fun C => by kernel_rfl
  refine runS_of (fun _ _ h => by cases h) WB87_0_ok (Nat.le_of_ble_eq_true rfl) ((e _).mpr ?_)
  unfold osmosisref1_Put_3_L1_s at h
  refine ⟨fun hb => ?_, fun hb => ?_⟩
  · have h := cond_t hb h
    obtain ⟨q10, h⟩ := bget hx10 h
    refine ⟨wP_idx R_I q10, ?_⟩
    obtain ⟨q11, h⟩ := bget hx11 h
    refine ⟨s_osmosisref1_May (d + 0) q11, ?_⟩
    refine ⟨fun hb => ?_, fun hb => ?_⟩
    · have h := cond_t hb h
      exact lfe_of h
    · have h := cond_f hb h
      obtain ⟨q15, h⟩ := bget hx15 h
      refine ⟨s_osmosisref1_Put_3_L0 (d + 1) q15, ?_⟩
      refine ⟨u8_w _, ?_⟩
      obtain ⟨q16, h⟩ := gd_some h
      refine ⟨by simp, ?_⟩
      refine ⟨(Row.app R_B _ _).symm, ?_⟩
      refine ⟨q16, ?_⟩
      exact lfe_of h
  · have h := cond_f hb h
    exact lfe_of h
theorem s_osmosisref1_Put_3_L1 (d : Nat) {l : List Int} {s9 : Int × List UInt8} {r : Unit ⊕ (List UInt8)} (h : osmosisref1_Put_3_L1 l s9 = some r) : RunX (bloop (bexec (wcalls atab (d + 1)) KK 41 WB87_0) [1, 5, 6] KK) 0 (inL [1, 5, 6] (st_osmosisref1_Put_3_L1 l s9)) (fin_osmosisref1_Put_3_L1 l r) :=
  loop_of (st := st_osmosisref1_Put_3_L1 l) (fin := fin_osmosisref1_Put_3_L1 l) (step := osmosisref1_Put_3_L1_s l) (fun e => by rcases e with e | e <;> (intro h; cases h)) (fun s x h => b_osmosisref1_Put_3_L1 d h) KK s9 r h

def osmosisref1_Put_3 (p_b : List UInt8) (l : List Int) : Option (List UInt8) :=
  gd (fitsB 1 p_b.length) ((osmosisref1_Put_3_L1 l (0, p_b)).bind fun (x17 : Unit ⊕ (List UInt8)) => cond (isL x17) (some []) (some (getR x17)))
def out_osmosisref1_Put_3 (p_b : List UInt8) (l : List Int) (r : List UInt8) : AV × WH := ((.acc 0 0 1 r.length true), [(some (.cells (F_B r) false true))])

theorem s_osmosisref1_Put_3 (d : Nat) {p_b : List UInt8} {l : List Int} {r : List UInt8} (h : osmosisref1_Put_3 p_b l = some r) : Spec (wcalls atab (d + 2)) 87 [(l_B p_b), (l_I l)] [] (out_osmosisref1_Put_3 p_b l r).1 (out_osmosisref1_Put_3 p_b l r).2 := by
  obtain ⟨x17, hx17⟩ := wx (osmosisref1_Put_3_L1 l (0, p_b))
  have e : ∀ C : ACalls, wBody C (fun _ => none) KK WF87 [(l_B p_b), (l_I l)] [] (.ap 10 p_b.length (F_B p_b) (.ite (isL x17) (.lp [none, none, none] [] [] .ret [(4, (.slice none 1 0 0 true))] [] (.fin (some true) [] none)) (.lp [none, none, none] [] [] (.exit 0) [(5, (.acc 0 0 1 ((getR x17).length) true))] [(some (.cells (F_B (getR x17)) false true))] (.fin (some true) [] none)))) (out_osmosisref1_Put_3 p_b l r).1 (out_osmosisref1_Put_3 p_b l r).2 = (2 = 2 ∧ 2 ≤ 41 ∧ (0 + p_b.length = p_b.length ∧ (F_B [] ++ F_B p_b = F_B p_b ∧ (fitsB 1 p_b.length = true ∧ (((isL x17) = true → (RunS (bloop (bexec C KK 41 WB87_0) [1, 5, 6] KK) 0 [(1, (l_I l)), (5, (.acc 0 0 1 p_b.length true)), (6, (.int .i64 0))] [(some (.cells (F_B p_b) false true))] .ret [(4, (.slice none 1 0 0 true))] [] ∧ (@Eq AV (.acc 0 0 1 0 true) (out_osmosisref1_Put_3 p_b l r).1 ∧ @Eq WH [(some (.cells (F_B []) false true))] (out_osmosisref1_Put_3 p_b l r).2))) ∧ ((isL x17) = false → (RunS (bloop (bexec C KK 41 WB87_0) [1, 5, 6] KK) 0 [(1, (l_I l)), (5, (.acc 0 0 1 p_b.length true)), (6, (.int .i64 0))] [(some (.cells (F_B p_b) false true))] (.exit 0) [(5, (.acc 0 0 1 ((getR x17).length) true))] [(some (.cells (F_B (getR x17)) false true))] ∧ lff (out_osmosisref1_Put_3 p_b l) (getR x17) r))))))) := fun C => by kernel_rfl
  refine spec_of (fun _ _ h => by cases h) rfl atab_87 WF87_ok ((e _).mpr ⟨rfl, by decide, ?_⟩)
  unfold osmosisref1_Put_3 at h
  obtain ⟨q1, h⟩ := gd_some h
  refine ⟨by simp, ?_⟩
  refine ⟨by first | rfl | simp [F_B], ?_⟩
  refine ⟨q1, ?_⟩
  obtain ⟨q17, h⟩ := bget hx17 h
  refine ⟨fun hb18 => ?_, fun hb18 => ?_⟩
  · have h := cond_t hb18 h
    refine ⟨by have h := s_osmosisref1_Put_3_L1 (d + 0) q17; rw [isL_t hb18] at h; exact h, ?_⟩
    obtain rfl := Option.some.inj h
    refine ⟨?_, ?_⟩ <;> first | rfl | (simp only [out_osmosisref1_Put_3, List.length_set, List.length_append, List.length_replicate, List.length_cons, List.length_nil, List.length_take, List.length_drop, Nat.add_zero, Nat.zero_add]; done) | simp [out_osmosisref1_Put_3]
  · have h := cond_f hb18 h
    refine ⟨by have h := s_osmosisref1_Put_3_L1 (d + 0) q17; rw [isL_f hb18] at h; exact h, ?_⟩
    exact lff_of h

/- osmosis/osmosisref1.Frame -/
def st_osmosisref1_Frame_L0 (l : List (List UInt8)) (s10 : Int × List UInt8) : List AV × WH := ([(l_LB l), (.acc 0 0 1 s10.2.length true), (.int .i64 s10.1)], [(some (.cells (F_B s10.2) false true))])
def fin_osmosisref1_Frame_L0 (l : List (List UInt8)) : (List UInt8) → Ex × Fast × WH := fun e => ((.exit 0), [(5, (.acc 0 0 1 e.length true))], [(some (.cells (F_B e) false true))])
abbrev rx_osmosisref1_Frame_L0 (l : List (List UInt8)) := roundX [1, 5, 6] (st_osmosisref1_Frame_L0 l) (fin_osmosisref1_Frame_L0 l)
def osmosisref1_Frame_L0_s (l : List (List UInt8)) (s10 : Int × List UInt8) : Option ((Int × List UInt8) ⊕ ((List UInt8))) :=
  cond (decide (s10.1 < (l.length : Int))) ((getI l s10.1).bind fun (x11 : List UInt8) => (osmosisref1_Put_3 s10.2 ([(x11.length : Int)])).bind fun (x12 : List UInt8) => (getI l s10.1).bind fun (x13 : List UInt8) => (osmosisref1_Sum [x13]).bind fun (x14 : Int) => (osmosisref1_eight x14).bind fun (x15 : List UInt8) => gd (fitsB 1 (x12 ++ x15).length) ((getI l s10.1).bind fun (x17 : List UInt8) => gd (fitsB 1 ((x12 ++ x15) ++ x17).length) (some (.inl ((IntKind.i64.wrap (s10.1 + 1)), ((x12 ++ x15) ++ x17)))))) (some (.inr s10.2))
def osmosisref1_Frame_L0 (l : List (List UInt8)) (s10 : Int × List UInt8) : Option ((List UInt8)) := loopX (osmosisref1_Frame_L0_s l) KK s10
theorem b_osmosisref1_Frame_L0 (d : Nat) {l : List (List UInt8)} {s10 : Int × List UInt8} {r : (Int × List UInt8) ⊕ ((List UInt8))} (h : osmosisref1_Frame_L0_s l s10 = some r) : RunX (bexec (wcalls atab (d + 2)) KK 41 WB27_0) 0 (inL [1, 5, 6] (st_osmosisref1_Frame_L0 l s10)) (rx_osmosisref1_Frame_L0 l r) := by
  obtain ⟨x11, hx11⟩ := wx (getI l s10.1)
  obtain ⟨x12, hx12⟩ := wx (osmosisref1_Put_3 s10.2 ([(x11.length : Int)]))
  obtain ⟨x13, hx13⟩ := wx (getI l s10.1)
  obtain ⟨x14, hx14⟩ := wx (osmosisref1_Sum [x13])
  obtain ⟨x15, hx15⟩ := wx (osmosisref1_eight x14)
  obtain ⟨x17, hx17⟩ := wx (getI l s10.1)
  have e : ∀ C : ACalls, wCode C (fun _ => none) KK 41 0 WB27_0 (inL [1, 5, 6] (st_osmosisref1_Frame_L0 l s10)).1 (inL [1, 5, 6] (st_osmosisref1_Frame_L0 l s10)).2 (.br 13 (.v 19 (.elem ([(l_B x11)] ++ F_LB (l.drop (s10.1.toNat + 1)))) (.call [] (some false) [] (.acc 0 0 1 x12.length true) [(some (.cells (F_B x12) false true))] (.v 27 (.elem ([(l_B x13)] ++ F_LB (l.drop (s10.1.toNat + 1)))) (.v 29 (.str x13) (.cb [] [] (.int .u64 x14) (.call [] (some false) [] (l_B x15) [] (.ap 33 (x12 ++ x15).length (F_B (x12 ++ x15)) (.v 37 (.elem ([(l_B x17)] ++ F_LB (l.drop (s10.1.toNat + 1)))) (.ap 39 ((x12 ++ x15) ++ x17).length (F_B ((x12 ++ x15) ++ x17)) (.en [1, 5, 6] [none, none, none] [] [])))))))))) (.en [5] [none] [] [])) (rx_osmosisref1_Frame_L0 l r) = (((decide (s10.1 < (l.length : Int))) = true → (wP (.idxSlice 1 (.c (l_LB l)) (.c (.int .i64 s10.1))) = some (.elem ([(l_B x11)] ++ F_LB (l.drop (s10.1.toNat + 1)))) ∧ (Spec C 87 [(l_B s10.2), (l_I ([(x11.length : Int)]))] [] (.acc 0 0 1 x12.length true) [(some (.cells (F_B x12) false true))] ∧ (0 ≤ 1 ∧ (wP (.idxSlice 1 (.c (l_LB l)) (.c (.int .i64 s10.1))) = some (.elem ([(l_B x13)] ++ F_LB (l.drop (s10.1.toNat + 1)))) ∧ ((toBytes (F_B x13)).map AV.str = some (.str x13) ∧ (Spec C 89 [(l_S [x13])] [] (.int .u64 x14) [] ∧ (Spec C 88 [(.int .u64 x14)] [] (l_B x15) [] ∧ (0 ≤ 0 ∧ (x12.length + x15.length = (x12 ++ x15).length ∧ (F_B x12 ++ F_B x15 = F_B (x12 ++ x15) ∧ (fitsB 1 (x12 ++ x15).length = true ∧ (wP (.idxSlice 1 (.c (l_LB l)) (.c (.int .i64 s10.1))) = some (.elem ([(l_B x17)] ++ F_LB (l.drop (s10.1.toNat + 1)))) ∧ ((x12 ++ x15).length + x17.length = ((x12 ++ x15) ++ x17).length ∧ (F_B (x12 ++ x15) ++ F_B x17 = F_B ((x12 ++ x15) ++ x17) ∧ (fitsB 1 ((x12 ++ x15) ++ x17).length = true ∧ lfe (rx_osmosisref1_Frame_L0 l) (.inl ((IntKind.i64.wrap (s10.1 + 1)), ((x12 ++ x15) ++ x17))) r)))))))))))))))) ∧ ((decide (s10.1 < (l.length : Int))) = false → lfe (rx_osmosisref1_Frame_L0 l) (.inr s10.2) r)) := fun C => by kernel_rfl
  refine runS_of (fun _ _ h => by cases h) WB27_0_ok (Nat.le_of_ble_eq_true rfl) ((e _).mpr ?_)
  unfold osmosisref1_Frame_L0_s at h
  refine ⟨fun hb => ?_, fun hb => ?_⟩
  · have h := cond_t hb h
    obtain ⟨q11, h⟩ := bget hx11 h
    refine ⟨wP_idx R_LB q11, ?_⟩
    obtain ⟨q12, h⟩ := bget hx12 h
    refine ⟨s_osmosisref1_Put_3 (d + 0) q12, ?_⟩
    refine ⟨by decide, ?_⟩
    obtain ⟨q13, h⟩ := bget hx13 h
    refine ⟨wP_idx R_LB q13, ?_⟩
    refine ⟨by rw [show F_B x13 = (x13).map byteC from rfl, toBytes_map]; rfl, ?_⟩
    obtain ⟨q14, h⟩ := bget hx14 h
    refine ⟨s_osmosisref1_Sum (d + 0) q14, ?_⟩
    obtain ⟨q15, h⟩ := bget hx15 h
    refine ⟨s_osmosisref1_eight (d + 1) q15, ?_⟩
    refine ⟨by decide, ?_⟩
    obtain ⟨q16, h⟩ := gd_some h
    refine ⟨app_len _ _, ?_⟩
    refine ⟨(Row.app R_B _ _).symm, ?_⟩
    refine ⟨q16, ?_⟩
    obtain ⟨q17, h⟩ := bget hx17 h
    refine ⟨wP_idx R_LB q17, ?_⟩
    obtain ⟨q18, h⟩ := gd_some h
    refine ⟨app_len _ _, ?_⟩
    refine ⟨(Row.app R_B _ _).symm, ?_⟩
    refine ⟨q18, ?_⟩
    exact lfe_of h
  · have h := cond_f hb h
    exact lfe_of h
theorem s_osmosisref1_Frame_L0 (d : Nat) {l : List (List UInt8)} {s10 : Int × List UInt8} {r : (List UInt8)} (h : osmosisref1_Frame_L0 l s10 = some r) : RunX (bloop (bexec (wcalls atab (d + 2)) KK 41 WB27_0) [1, 5, 6] KK) 0 (inL [1, 5, 6] (st_osmosisref1_Frame_L0 l s10)) (fin_osmosisref1_Frame_L0 l r) :=
  loop_of (st := st_osmosisref1_Frame_L0 l) (fin := fin_osmosisref1_Frame_L0 l) (step := osmosisref1_Frame_L0_s l) (fun e => by (intro h; cases h)) (fun s x h => b_osmosisref1_Frame_L0 d h) KK s10 r h

def osmosisref1_Frame (p_b : List UInt8) (l : List (List UInt8)) : Option (List UInt8) :=
  gd (fitsB 1 p_b.length) ((osmosisref1_Frame_L0 l (0, p_b)).bind fun (x19 : (List UInt8)) => some x19)
def out_osmosisref1_Frame (p_b : List UInt8) (l : List (List UInt8)) (r : List UInt8) : AV × WH := ((l_B r), [])

theorem s_osmosisref1_Frame (d : Nat) {p_b : List UInt8} {l : List (List UInt8)} {r : List UInt8} (h : osmosisref1_Frame p_b l = some r) : Spec (wcalls atab (d + 3)) 27 [(l_B p_b), (l_LB l)] [] (out_osmosisref1_Frame p_b l r).1 (out_osmosisref1_Frame p_b l r).2 := by
  obtain ⟨x19, hx19⟩ := wx (osmosisref1_Frame_L0 l (0, p_b))
  have e : ∀ C : ACalls, wBody C (fun _ => none) KK WF27 [(l_B p_b), (l_LB l)] [] (.ap 9 p_b.length (F_B p_b) (.lp [none, none, none] [] [] (.exit 0) [(5, (.acc 0 0 1 x19.length true))] [(some (.cells (F_B x19) false true))] (.fin (some false) [] none))) (out_osmosisref1_Frame p_b l r).1 (out_osmosisref1_Frame p_b l r).2 = (2 = 2 ∧ 2 ≤ 41 ∧ (0 + p_b.length = p_b.length ∧ (F_B [] ++ F_B p_b = F_B p_b ∧ (fitsB 1 p_b.length = true ∧ (RunS (bloop (bexec C KK 41 WB27_0) [1, 5, 6] KK) 0 [(1, (l_LB l)), (5, (.acc 0 0 1 p_b.length true)), (6, (.int .i64 0))] [(some (.cells (F_B p_b) false true))] (.exit 0) [(5, (.acc 0 0 1 x19.length true))] [(some (.cells (F_B x19) false true))] ∧ lff (out_osmosisref1_Frame p_b l) x19 r))))) := fun C => by kernel_rfl
  refine spec_of (fun _ _ h => by cases h) rfl atab_27 WF27_ok ((e _).mpr ⟨rfl, by decide, ?_⟩)
  unfold osmosisref1_Frame at h
  obtain ⟨q1, h⟩ := gd_some h
  refine ⟨by simp, ?_⟩
  refine ⟨by first | rfl | simp [F_B], ?_⟩
  refine ⟨q1, ?_⟩
  obtain ⟨q19, h⟩ := bget hx19 h
  refine ⟨s_osmosisref1_Frame_L0 (d + 0) q19, ?_⟩
  exact lff_of h

/- osmosis/osmosishand.Pick -/
def osmosishand_Pick (n : Int) (m : Int) : Option (Int) :=
  (remI .i64 n m).bind fun (x1 : Int) => cond (decide (x1 < 0)) (some (IntKind.i64.wrap (x1 + m))) (some x1)
def out_osmosishand_Pick (n : Int) (m : Int) (r : Int) : AV × WH := ((.int .i64 r), [])

theorem s_osmosishand_Pick (d : Nat) {n : Int} {m : Int} {r : Int} (h : osmosishand_Pick n m = some r) : Spec (wcalls atab (d + 1)) 28 [(.int .i64 n), (.int .i64 m)] [] (out_osmosishand_Pick n m r).1 (out_osmosishand_Pick n m r).2 := by
  obtain ⟨x1, hx1⟩ := wx (remI .i64 n m)
  have e : ∀ C : ACalls, wBody C (fun _ => none) KK WF28 [(.int .i64 n), (.int .i64 m)] [] (.v 7 (.int .i64 x1) (.br 9 (.fin (some false) [] none) (.fin (some false) [] none))) (out_osmosishand_Pick n m r).1 (out_osmosishand_Pick n m r).2 = (2 = 2 ∧ 2 ≤ 14 ∧ (aInts .rem .i64 n m = some (.int .i64 x1) ∧ (((decide (x1 < 0)) = true → lff (out_osmosishand_Pick n m) (IntKind.i64.wrap (x1 + m)) r) ∧ ((decide (x1 < 0)) = false → lff (out_osmosishand_Pick n m) x1 r)))) := fun C => by kernel_rfl
  refine spec_of (fun _ _ h => by cases h) rfl atab_28 WF28_ok ((e _).mpr ⟨rfl, by decide, ?_⟩)
  unfold osmosishand_Pick at h
  obtain ⟨q1, h⟩ := bget hx1 h
  refine ⟨wP_rem q1, ?_⟩
  refine ⟨fun hb => ?_, fun hb => ?_⟩
  · have h := cond_t hb h
    exact lff_of h
  · have h := cond_f hb h
    exact lff_of h

/- osmosis/osmosisref1.Frame -/
def st_osmosisref1_Frame_2_L0 (l : List (List UInt8)) (p_b : List UInt8) (s10 : Int × List UInt8) : List AV × WH := ([(l_LB l), (.acc 1 0 1 s10.2.length true), (.int .i64 s10.1)], [(some (.cells (F_B p_b) false true)), (some (.cells (F_B s10.2) false true))])
def fin_osmosisref1_Frame_2_L0 (l : List (List UInt8)) (p_b : List UInt8) : (List UInt8) → Ex × Fast × WH := fun e => ((.exit 0), [(5, (.acc 1 0 1 e.length true))], [(some (.cells (F_B p_b) false true)), (some (.cells (F_B e) false true))])
abbrev rx_osmosisref1_Frame_2_L0 (l : List (List UInt8)) (p_b : List UInt8) := roundX [1, 5, 6] (st_osmosisref1_Frame_2_L0 l p_b) (fin_osmosisref1_Frame_2_L0 l p_b)
def osmosisref1_Frame_2_L0_s (l : List (List UInt8)) (p_b : List UInt8) (s10 : Int × List UInt8) : Option ((Int × List UInt8) ⊕ ((List UInt8))) :=
  cond (decide (s10.1 < (l.length : Int))) ((getI l s10.1).bind fun (x11 : List UInt8) => (osmosisref1_Put_3 s10.2 ([(x11.length : Int)])).bind fun (x12 : List UInt8) => (getI l s10.1).bind fun (x13 : List UInt8) => (osmosisref1_Sum [x13]).bind fun (x14 : Int) => (osmosisref1_eight x14).bind fun (x15 : List UInt8) => gd (fitsB 1 (x12 ++ x15).length) ((getI l s10.1).bind fun (x17 : List UInt8) => gd (fitsB 1 ((x12 ++ x15) ++ x17).length) (some (.inl ((IntKind.i64.wrap (s10.1 + 1)), ((x12 ++ x15) ++ x17)))))) (some (.inr s10.2))
def osmosisref1_Frame_2_L0 (l : List (List UInt8)) (p_b : List UInt8) (s10 : Int × List UInt8) : Option ((List UInt8)) := loopX (osmosisref1_Frame_2_L0_s l p_b) KK s10
theorem b_osmosisref1_Frame_2_L0 (d : Nat) {l : List (List UInt8)} {p_b : List UInt8} {s10 : Int × List UInt8} {r : (Int × List UInt8) ⊕ ((List UInt8))} (h : osmosisref1_Frame_2_L0_s l p_b s10 = some r) : RunX (bexec (wcalls atab (d + 2)) KK 41 WB27_0) 1 (inL [1, 5, 6] (st_osmosisref1_Frame_2_L0 l p_b s10)) (rx_osmosisref1_Frame_2_L0 l p_b r) := by
  obtain ⟨x11, hx11⟩ := wx (getI l s10.1)
  obtain ⟨x12, hx12⟩ := wx (osmosisref1_Put_3 s10.2 ([(x11.length : Int)]))
  obtain ⟨x13, hx13⟩ := wx (getI l s10.1)
  obtain ⟨x14, hx14⟩ := wx (osmosisref1_Sum [x13])
  obtain ⟨x15, hx15⟩ := wx (osmosisref1_eight x14)
  obtain ⟨x17, hx17⟩ := wx (getI l s10.1)
  have e : ∀ C : ACalls, wCode C (fun _ => none) KK 41 1 WB27_0 (inL [1, 5, 6] (st_osmosisref1_Frame_2_L0 l p_b s10)).1 (inL [1, 5, 6] (st_osmosisref1_Frame_2_L0 l p_b s10)).2 (.br 13 (.v 19 (.elem ([(l_B x11)] ++ F_LB (l.drop (s10.1.toNat + 1)))) (.call [] (some false) [] (.acc 0 0 1 x12.length true) [(some (.cells (F_B x12) false true))] (.v 27 (.elem ([(l_B x13)] ++ F_LB (l.drop (s10.1.toNat + 1)))) (.v 29 (.str x13) (.cb [] [] (.int .u64 x14) (.call [] (some false) [] (l_B x15) [] (.ap 33 (x12 ++ x15).length (F_B (x12 ++ x15)) (.v 37 (.elem ([(l_B x17)] ++ F_LB (l.drop (s10.1.toNat + 1)))) (.ap 39 ((x12 ++ x15) ++ x17).length (F_B ((x12 ++ x15) ++ x17)) (.en [1, 5, 6] [none, none, none] [] [])))))))))) (.en [5] [none] [] [])) (rx_osmosisref1_Frame_2_L0 l p_b r) = (((decide (s10.1 < (l.length : Int))) = true → (wP (.idxSlice 1 (.c (l_LB l)) (.c (.int .i64 s10.1))) = some (.elem ([(l_B x11)] ++ F_LB (l.drop (s10.1.toNat + 1)))) ∧ (Spec C 87 [(l_B s10.2), (l_I ([(x11.length : Int)]))] [] (.acc 0 0 1 x12.length true) [(some (.cells (F_B x12) false true))] ∧ (0 ≤ 1 ∧ (wP (.idxSlice 1 (.c (l_LB l)) (.c (.int .i64 s10.1))) = some (.elem ([(l_B x13)] ++ F_LB (l.drop (s10.1.toNat + 1)))) ∧ ((toBytes (F_B x13)).map AV.str = some (.str x13) ∧ (Spec C 89 [(l_S [x13])] [] (.int .u64 x14) [] ∧ (Spec C 88 [(.int .u64 x14)] [] (l_B x15) [] ∧ (0 ≤ 0 ∧ (x12.length + x15.length = (x12 ++ x15).length ∧ (F_B x12 ++ F_B x15 = F_B (x12 ++ x15) ∧ (fitsB 1 (x12 ++ x15).length = true ∧ (wP (.idxSlice 1 (.c (l_LB l)) (.c (.int .i64 s10.1))) = some (.elem ([(l_B x17)] ++ F_LB (l.drop (s10.1.toNat + 1)))) ∧ ((x12 ++ x15).length + x17.length = ((x12 ++ x15) ++ x17).length ∧ (F_B (x12 ++ x15) ++ F_B x17 = F_B ((x12 ++ x15) ++ x17) ∧ (fitsB 1 ((x12 ++ x15) ++ x17).length = true ∧ lfe (rx_osmosisref1_Frame_2_L0 l p_b) (.inl ((IntKind.i64.wrap (s10.1 + 1)), ((x12 ++ x15) ++ x17))) r)))))))))))))))) ∧ ((decide (s10.1 < (l.length : Int))) = false → lfe (rx_osmosisref1_Frame_2_L0 l p_b) (.inr s10.2) r)) := fun C => by kernel_rfl
  refine runS_of (fun _ _ h => by cases h) WB27_0_ok (Nat.le_of_ble_eq_true rfl) ((e _).mpr ?_)
  unfold osmosisref1_Frame_2_L0_s at h
  refine ⟨fun hb => ?_, fun hb => ?_⟩
  · have h := cond_t hb h
    obtain ⟨q11, h⟩ := bget hx11 h
    refine ⟨wP_idx R_LB q11, ?_⟩
    obtain ⟨q12, h⟩ := bget hx12 h
    refine ⟨s_osmosisref1_Put_3 (d + 0) q12, ?_⟩
    refine ⟨by decide, ?_⟩
    obtain ⟨q13, h⟩ := bget hx13 h
    refine ⟨wP_idx R_LB q13, ?_⟩
    refine ⟨by rw [show F_B x13 = (x13).map byteC from rfl, toBytes_map]; rfl, ?_⟩
    obtain ⟨q14, h⟩ := bget hx14 h
    refine ⟨s_osmosisref1_Sum (d + 0) q14, ?_⟩
    obtain ⟨q15, h⟩ := bget hx15 h
    refine ⟨s_osmosisref1_eight (d + 1) q15, ?_⟩
    refine ⟨by decide, ?_⟩
    obtain ⟨q16, h⟩ := gd_some h
    refine ⟨app_len _ _, ?_⟩
    refine ⟨(Row.app R_B _ _).symm, ?_⟩
    refine ⟨q16, ?_⟩
    obtain ⟨q17, h⟩ := bget hx17 h
    refine ⟨wP_idx R_LB q17, ?_⟩
    obtain ⟨q18, h⟩ := gd_some h
    refine ⟨app_len _ _, ?_⟩
    refine ⟨(Row.app R_B _ _).symm, ?_⟩
    refine ⟨q18, ?_⟩
    exact lfe_of h
  · have h := cond_f hb h
    exact lfe_of h
theorem s_osmosisref1_Frame_2_L0 (d : Nat) {l : List (List UInt8)} {p_b : List UInt8} {s10 : Int × List UInt8} {r : (List UInt8)} (h : osmosisref1_Frame_2_L0 l p_b s10 = some r) : RunX (bloop (bexec (wcalls atab (d + 2)) KK 41 WB27_0) [1, 5, 6] KK) 1 (inL [1, 5, 6] (st_osmosisref1_Frame_2_L0 l p_b s10)) (fin_osmosisref1_Frame_2_L0 l p_b r) :=
  loop_of (st := st_osmosisref1_Frame_2_L0 l p_b) (fin := fin_osmosisref1_Frame_2_L0 l p_b) (step := osmosisref1_Frame_2_L0_s l p_b) (fun e => by (intro h; cases h)) (fun s x h => b_osmosisref1_Frame_2_L0 d h) KK s10 r h

def osmosisref1_Frame_2 (l : List (List UInt8)) (p_b : List UInt8) : Option (List UInt8) :=
  gd (fitsB 1 p_b.length) ((osmosisref1_Frame_2_L0 l p_b (0, p_b)).bind fun (x19 : (List UInt8)) => some x19)
def out_osmosisref1_Frame_2 (l : List (List UInt8)) (p_b : List UInt8) (r : List UInt8) : AV × WH := ((.acc 1 0 1 r.length true), [(some (.cells (F_B p_b) false true)), (some (.cells (F_B r) false true))])

theorem s_osmosisref1_Frame_2 (d : Nat) {l : List (List UInt8)} {p_b : List UInt8} {r : List UInt8} (h : osmosisref1_Frame_2 l p_b = some r) : Spec (wcalls atab (d + 3)) 27 [(.acc 0 0 1 p_b.length true), (l_LB l)] [(some (.cells (F_B p_b) false true))] (out_osmosisref1_Frame_2 l p_b r).1 (out_osmosisref1_Frame_2 l p_b r).2 := by
  obtain ⟨x19, hx19⟩ := wx (osmosisref1_Frame_2_L0 l p_b (0, p_b))
  have e : ∀ C : ACalls, wBody C (fun _ => none) KK WF27 [(.acc 0 0 1 p_b.length true), (l_LB l)] [(some (.cells (F_B p_b) false true))] (.ap 9 p_b.length (F_B p_b) (.lp [none, none, none] [] [] (.exit 0) [(5, (.acc 1 0 1 x19.length true))] [(some (.cells (F_B p_b) false true)), (some (.cells (F_B x19) false true))] (.fin none [] none))) (out_osmosisref1_Frame_2 l p_b r).1 (out_osmosisref1_Frame_2 l p_b r).2 = (2 = 2 ∧ 2 ≤ 41 ∧ (0 + p_b.length = p_b.length ∧ (F_B [] ++ F_B p_b = F_B p_b ∧ (fitsB 1 p_b.length = true ∧ (RunS (bloop (bexec C KK 41 WB27_0) [1, 5, 6] KK) 1 [(1, (l_LB l)), (5, (.acc 1 0 1 p_b.length true)), (6, (.int .i64 0))] [(some (.cells (F_B p_b) false true)), (some (.cells (F_B p_b) false true))] (.exit 0) [(5, (.acc 1 0 1 x19.length true))] [(some (.cells (F_B p_b) false true)), (some (.cells (F_B x19) false true))] ∧ lff (out_osmosisref1_Frame_2 l p_b) x19 r))))) := fun C => by kernel_rfl
  refine spec_of (fun _ _ h => by cases h) rfl atab_27 WF27_ok ((e _).mpr ⟨rfl, by decide, ?_⟩)
  unfold osmosisref1_Frame_2 at h
  obtain ⟨q1, h⟩ := gd_some h
  refine ⟨by simp, ?_⟩
  refine ⟨by first | rfl | simp [F_B], ?_⟩
  refine ⟨q1, ?_⟩
  obtain ⟨q19, h⟩ := bget hx19 h
  refine ⟨s_osmosisref1_Frame_2_L0 (d + 0) q19, ?_⟩
  exact lff_of h

/- osmosis/osmosisref1.late -/
def st_osmosisref1_late_L0 (p_b : List UInt8) (s2 : Int) : List AV × WH := ([(l_B p_b), (.int .i64 s2)], [])
def fin_osmosisref1_late_L0 (p_b : List UInt8) : Unit ⊕ Unit → Ex × Fast × WH := fun
  | .inl e => (.ret, [(4, (.int .i64 2))], [])
  | .inr e => ((.exit 0), [], [])
abbrev rx_osmosisref1_late_L0 (p_b : List UInt8) := roundX [0, 5] (st_osmosisref1_late_L0 p_b) (fin_osmosisref1_late_L0 p_b)
def osmosisref1_late_L0_s (p_b : List UInt8) (s2 : Int) : Option ((Int) ⊕ (Unit ⊕ Unit)) :=
  cond (decide (s2 < (p_b.length : Int))) ((getI p_b s2).bind fun (x3 : UInt8) => cond (decide ((x3.toNat : Int) < 128)) (some (.inr (.inl ()))) (some (.inl (IntKind.i64.wrap (s2 + 1))))) (some (.inr (.inr ())))
def osmosisref1_late_L0 (p_b : List UInt8) (s2 : Int) : Option (Unit ⊕ Unit) := loopX (osmosisref1_late_L0_s p_b) KK s2
theorem b_osmosisref1_late_L0 (d : Nat) {p_b : List UInt8} {s2 : Int} {r : (Int) ⊕ (Unit ⊕ Unit)} (h : osmosisref1_late_L0_s p_b s2 = some r) : RunX (bexec (wcalls atab (d + 0)) KK 18 WB123_0) 0 (inL [0, 5] (st_osmosisref1_late_L0 p_b s2)) (rx_osmosisref1_late_L0 p_b r) := by
  obtain ⟨x3, hx3⟩ := wx (getI p_b s2)
  have e : ∀ C : ACalls, wCode C (fun _ => none) KK 18 0 WB123_0 (inL [0, 5] (st_osmosisref1_late_L0 p_b s2)).1 (inL [0, 5] (st_osmosisref1_late_L0 p_b s2)).2 (.br 10 (.v 15 (.elem ([(byteC x3)] ++ F_B (p_b.drop (s2.toNat + 1)))) (.br 17 (.en [4] [none] [] []) (.en [0, 5] [none, none] [] []))) (.en [] [] [] [])) (rx_osmosisref1_late_L0 p_b r) = (((decide (s2 < (p_b.length : Int))) = true → (wP (.idxSlice 1 (.c (l_B p_b)) (.c (.int .i64 s2))) = some (.elem ([(byteC x3)] ++ F_B (p_b.drop (s2.toNat + 1)))) ∧ (((decide ((x3.toNat : Int) < 128)) = true → lfe (rx_osmosisref1_late_L0 p_b) (.inr (.inl ())) r) ∧ ((decide ((x3.toNat : Int) < 128)) = false → lfe (rx_osmosisref1_late_L0 p_b) (.inl (IntKind.i64.wrap (s2 + 1))) r)))) ∧ ((decide (s2 < (p_b.length : Int))) = false → lfe (rx_osmosisref1_late_L0 p_b) (.inr (.inr ())) r)) := fun C => by kernel_rfl
  refine runS_of (fun _ _ h => by cases h) WB123_0_ok (Nat.le_of_ble_eq_true rfl) ((e _).mpr ?_)
  unfold osmosisref1_late_L0_s at h
  refine ⟨fun hb => ?_, fun hb => ?_⟩
  · have h := cond_t hb h
    obtain ⟨q3, h⟩ := bget hx3 h
    refine ⟨wP_idx R_B q3, ?_⟩
    refine ⟨fun hb => ?_, fun hb => ?_⟩
    · have h := cond_t hb h
      exact lfe_of h
    · have h := cond_f hb h
      exact lfe_of h
  · have h := cond_f hb h
    exact lfe_of h
theorem s_osmosisref1_late_L0 (d : Nat) {p_b : List UInt8} {s2 : Int} {r : Unit ⊕ Unit} (h : osmosisref1_late_L0 p_b s2 = some r) : RunX (bloop (bexec (wcalls atab (d + 0)) KK 18 WB123_0) [0, 5] KK) 0 (inL [0, 5] (st_osmosisref1_late_L0 p_b s2)) (fin_osmosisref1_late_L0 p_b r) :=
  loop_of (st := st_osmosisref1_late_L0 p_b) (fin := fin_osmosisref1_late_L0 p_b) (step := osmosisref1_late_L0_s p_b) (fun e => by rcases e with e | e <;> (intro h; cases h)) (fun s x h => b_osmosisref1_late_L0 d h) KK s2 r h

def osmosisref1_late (p_b : List UInt8) (p_from : Int) : Option (Int) :=
  (osmosisref1_late_L0 p_b p_from).bind fun (x4 : Unit ⊕ Unit) => cond (isL x4) (some 2) (some 3)
def out_osmosisref1_late (p_b : List UInt8) (p_from : Int) (r : Int) : AV × WH := ((.int .i64 r), [])

theorem s_osmosisref1_late (d : Nat) {p_b : List UInt8} {p_from : Int} {r : Int} (h : osmosisref1_late p_b p_from = some r) : Spec (wcalls atab (d + 1)) 123 [(l_B p_b), (.int .i64 p_from)] [] (out_osmosisref1_late p_b p_from r).1 (out_osmosisref1_late p_b p_from r).2 := by
  obtain ⟨x4, hx4⟩ := wx (osmosisref1_late_L0 p_b p_from)
  have e : ∀ C : ACalls, wBody C (fun _ => none) KK WF123 [(l_B p_b), (.int .i64 p_from)] [] (.ite (isL x4) (.lp [none, none] [] [] .ret [(4, (.int .i64 2))] [] (.fin (some false) [] none)) (.lp [none, none] [] [] (.exit 0) [] [] (.fin (some false) [] none))) (out_osmosisref1_late p_b p_from r).1 (out_osmosisref1_late p_b p_from r).2 = (2 = 2 ∧ 2 ≤ 18 ∧ (((isL x4) = true → (RunS (bloop (bexec C KK 18 WB123_0) [0, 5] KK) 0 [(0, (l_B p_b)), (5, (.int .i64 p_from))] [] .ret [(4, (.int .i64 2))] [] ∧ lff (out_osmosisref1_late p_b p_from) 2 r)) ∧ ((isL x4) = false → (RunS (bloop (bexec C KK 18 WB123_0) [0, 5] KK) 0 [(0, (l_B p_b)), (5, (.int .i64 p_from))] [] (.exit 0) [] [] ∧ lff (out_osmosisref1_late p_b p_from) 3 r)))) := fun C => by kernel_rfl
  refine spec_of (fun _ _ h => by cases h) rfl atab_123 WF123_ok ((e _).mpr ⟨rfl, by decide, ?_⟩)
  unfold osmosisref1_late at h
  obtain ⟨q4, h⟩ := bget hx4 h
  refine ⟨fun hb5 => ?_, fun hb5 => ?_⟩
  · have h := cond_t hb5 h
    refine ⟨by have h := s_osmosisref1_late_L0 (d + 0) q4; rw [isL_t hb5] at h; exact h, ?_⟩
    exact lff_of h
  · have h := cond_f hb5 h
    refine ⟨by have h := s_osmosisref1_late_L0 (d + 0) q4; rw [isL_f hb5] at h; exact h, ?_⟩
    exact lff_of h

/- osmosis/osmosisref1.Take -/
abbrev in_osmosisref1_Take_J0 (s11 : Int × Int) (x12 : UInt8) (p_b : List UInt8) : Fast × WH := ([(0, (l_B p_b)), (5, (.int .i64 s11.1)), (6, (.int .i64 s11.2)), (7, (.int .i64 (IntKind.i64.wrap (x12.toNat : Int))))], [])
def fin_osmosisref1_Take_J0 (s11 : Int × Int) (x12 : UInt8) (p_b : List UInt8) : Bool → Ex × Fast × WH := fun e => (.normal, [(0, (l_B p_b)), (5, (.int .i64 s11.1)), (6, (.int .i64 s11.2)), (7, (.int .i64 (IntKind.i64.wrap (x12.toNat : Int)))), (29, (.bool e))], [])
def osmosisref1_Take_J0 (s11 : Int × Int) (x12 : UInt8) (p_b : List UInt8) : Option (Bool) :=
  cond (s11.2 == 9) (some true) (cond (s11.2 == 8) (some (decide ((Int.tmod (IntKind.i64.wrap (x12.toNat : Int)) 128) ≥ 64))) (some false))
theorem s_osmosisref1_Take_J0 (d : Nat) {s11 : Int × Int} {x12 : UInt8} {p_b : List UInt8} {r : Bool} (h : osmosisref1_Take_J0 s11 x12 p_b = some r) : RunX (bexec (wcalls atab (d + 0)) KK 56 WJ90_bbabklbakbaa) 0 (in_osmosisref1_Take_J0 s11 x12 p_b) (fin_osmosisref1_Take_J0 s11 x12 p_b r) := by
  have e : ∀ C : ACalls, wCode C (fun _ => none) KK 56 0 WJ90_bbabklbakbaa (in_osmosisref1_Take_J0 s11 x12 p_b).1 (in_osmosisref1_Take_J0 s11 x12 p_b).2 (.br 21 (.en [0, 5, 6, 7, 29] [none, none, none, none, none] [] []) (.br 24 (.en [0, 5, 6, 7, 29] [none, none, none, none, none] [] []) (.en [0, 5, 6, 7, 29] [none, none, none, none, none] [] []))) (fin_osmosisref1_Take_J0 s11 x12 p_b r) = (((s11.2 == 9) = true → lfe (fin_osmosisref1_Take_J0 s11 x12 p_b) true r) ∧ ((s11.2 == 9) = false → (((s11.2 == 8) = true → lfe (fin_osmosisref1_Take_J0 s11 x12 p_b) (decide ((Int.tmod (IntKind.i64.wrap (x12.toNat : Int)) 128) ≥ 64)) r) ∧ ((s11.2 == 8) = false → lfe (fin_osmosisref1_Take_J0 s11 x12 p_b) false r)))) := fun C => by kernel_rfl
  refine runS_of (fun _ _ h => by cases h) WJ90_bbabklbakbaa_ok (Nat.le_of_ble_eq_true rfl) ((e _).mpr ?_)
  unfold osmosisref1_Take_J0 at h
  refine ⟨fun hb => ?_, fun hb => ?_⟩
  · have h := cond_t hb h
    exact lfe_of h
  · have h := cond_f hb h
    refine ⟨fun hb => ?_, fun hb => ?_⟩
    · have h := cond_t hb h
      exact lfe_of h
    · have h := cond_f hb h
      exact lfe_of h

abbrev in_osmosisref1_Take_J1 (s11 : Int × Int) (x12 : UInt8) (p_b : List UInt8) : Fast × WH := ([(0, (l_B p_b)), (5, (.int .i64 s11.1)), (6, (.int .i64 s11.2)), (7, (.int .i64 (IntKind.i64.wrap (x12.toNat : Int))))], [])
def fin_osmosisref1_Take_J1 (s11 : Int × Int) (x12 : UInt8) (p_b : List UInt8) : Int ⊕ Unit → Ex × Fast × WH := fun
  | .inl e => (.ret, [(2, (.int .i64 0)), (3, (.slice none 1 0 0 true)), (4, (.int .i64 e))], [])
  | .inr e => (.normal, [(0, (l_B p_b)), (5, (.int .i64 s11.1)), (6, (.int .i64 s11.2)), (7, (.int .i64 (IntKind.i64.wrap (x12.toNat : Int))))], [])
def osmosisref1_Take_J1 (s11 : Int × Int) (x12 : UInt8) (p_b : List UInt8) : Option (Int ⊕ Unit) :=
  (osmosisref1_Take_J0 s11 x12 p_b).bind fun (x13 : Bool) => cond x13 ((osmosisref1_late p_b s11.2).bind fun (x14 : Int) => some (.inl x14)) (some (.inr ()))
theorem s_osmosisref1_Take_J1 (d : Nat) {s11 : Int × Int} {x12 : UInt8} {p_b : List UInt8} {r : Int ⊕ Unit} (h : osmosisref1_Take_J1 s11 x12 p_b = some r) : RunX (bexec (wcalls atab (d + 1)) KK 56 WJ90_bbabklbakba) 0 (in_osmosisref1_Take_J1 s11 x12 p_b) (fin_osmosisref1_Take_J1 s11 x12 p_b r) := by
  obtain ⟨x13, hx13⟩ := wx (osmosisref1_Take_J0 s11 x12 p_b)
  obtain ⟨x14, hx14⟩ := wx (osmosisref1_late p_b s11.2)
  have e : ∀ C : ACalls, wCode C (fun _ => none) KK 56 0 WJ90_bbabklbakba (in_osmosisref1_Take_J1 s11 x12 p_b).1 (in_osmosisref1_Take_J1 s11 x12 p_b).2 (.jn [0, 5, 6, 7] [none, none, none, none] [] [] .normal [(0, (l_B p_b)), (5, (.int .i64 s11.1)), (6, (.int .i64 s11.2)), (7, (.int .i64 (IntKind.i64.wrap (x12.toNat : Int)))), (29, (.bool x13))] [] (.br 29 (.cb [] [] (.int .i64 x14) (.en [2, 3, 4] [none, none, none] [] [])) (.en [0, 5, 6, 7] [none, none, none, none] [] []))) (fin_osmosisref1_Take_J1 s11 x12 p_b r) = (RunS (bexec C KK 56 WJ90_bbabklbakbaa) 0 [(0, (l_B p_b)), (5, (.int .i64 s11.1)), (6, (.int .i64 s11.2)), (7, (.int .i64 (IntKind.i64.wrap (x12.toNat : Int))))] [] .normal [(0, (l_B p_b)), (5, (.int .i64 s11.1)), (6, (.int .i64 s11.2)), (7, (.int .i64 (IntKind.i64.wrap (x12.toNat : Int)))), (29, (.bool x13))] [] ∧ ((x13 = true → (Spec C 123 [(l_B p_b), (.int .i64 s11.2)] [] (.int .i64 x14) [] ∧ lfe (fin_osmosisref1_Take_J1 s11 x12 p_b) (.inl x14) r)) ∧ (x13 = false → lfe (fin_osmosisref1_Take_J1 s11 x12 p_b) (.inr ()) r))) := fun C => by kernel_rfl
  refine runS_of (fun _ _ h => by cases h) WJ90_bbabklbakba_ok (Nat.le_of_ble_eq_true rfl) ((e _).mpr ?_)
  unfold osmosisref1_Take_J1 at h
  obtain ⟨q13, h⟩ := bget hx13 h
  refine ⟨s_osmosisref1_Take_J0 (d + 1) q13, ?_⟩
  refine ⟨fun hb => ?_, fun hb => ?_⟩
  · have h := cond_t hb h
    obtain ⟨q14, h⟩ := bget hx14 h
    refine ⟨s_osmosisref1_late (d + 0) q14, ?_⟩
    exact lfe_of h
  · have h := cond_f hb h
    exact lfe_of h

abbrev in_osmosisref1_Take_J2 (x12 : UInt8) (s11 : Int × Int) (p_b : List UInt8) (x17 : Int) : Fast × WH := ([(0, (l_B p_b)), (5, (.int .i64 (IntKind.i64.wrap (s11.1 + x17)))), (6, (.int .i64 s11.2)), (7, (.int .i64 (IntKind.i64.wrap (x12.toNat : Int))))], [])
def fin_osmosisref1_Take_J2 (x12 : UInt8) (s11 : Int × Int) (p_b : List UInt8) (x17 : Int) : Unit ⊕ Unit → Ex × Fast × WH := fun
  | .inl e => (.ret, [(2, (.int .i64 0)), (3, (.slice none 1 0 0 true)), (4, (.int .i64 2))], [])
  | .inr e => (.normal, [(0, (l_B p_b)), (5, (.int .i64 (IntKind.i64.wrap (s11.1 + x17)))), (6, (.int .i64 s11.2))], [])
def osmosisref1_Take_J2 (x12 : UInt8) (s11 : Int × Int) (p_b : List UInt8) (x17 : Int) : Option (Unit ⊕ Unit) :=
  cond ((IntKind.i64.wrap (x12.toNat : Int)) == 0) (cond (decide (s11.2 > 0)) (some (.inl ())) (some (.inr ()))) (some (.inr ()))
theorem s_osmosisref1_Take_J2 (d : Nat) {x12 : UInt8} {s11 : Int × Int} {p_b : List UInt8} {x17 : Int} {r : Unit ⊕ Unit} (h : osmosisref1_Take_J2 x12 s11 p_b x17 = some r) : RunX (bexec (wcalls atab (d + 0)) KK 56 WJ90_bbabklbakbbbba) 0 (in_osmosisref1_Take_J2 x12 s11 p_b x17) (fin_osmosisref1_Take_J2 x12 s11 p_b x17 r) := by
  have e : ∀ C : ACalls, wCode C (fun _ => none) KK 56 0 WJ90_bbabklbakbbbba (in_osmosisref1_Take_J2 x12 s11 p_b x17).1 (in_osmosisref1_Take_J2 x12 s11 p_b x17).2 (.br 45 (.br 48 (.en [2, 3, 4] [none, none, none] [] []) (.en [0, 5, 6] [none, none, none] [] [])) (.en [0, 5, 6] [none, none, none] [] [])) (fin_osmosisref1_Take_J2 x12 s11 p_b x17 r) = ((((IntKind.i64.wrap (x12.toNat : Int)) == 0) = true → (((decide (s11.2 > 0)) = true → lfe (fin_osmosisref1_Take_J2 x12 s11 p_b x17) (.inl ()) r) ∧ ((decide (s11.2 > 0)) = false → lfe (fin_osmosisref1_Take_J2 x12 s11 p_b x17) (.inr ()) r))) ∧ (((IntKind.i64.wrap (x12.toNat : Int)) == 0) = false → lfe (fin_osmosisref1_Take_J2 x12 s11 p_b x17) (.inr ()) r)) := fun C => by kernel_rfl
  refine runS_of (fun _ _ h => by cases h) WJ90_bbabklbakbbbba_ok (Nat.le_of_ble_eq_true rfl) ((e _).mpr ?_)
  unfold osmosisref1_Take_J2 at h
  refine ⟨fun hb => ?_, fun hb => ?_⟩
  · have h := cond_t hb h
    refine ⟨fun hb => ?_, fun hb => ?_⟩
    · have h := cond_t hb h
      exact lfe_of h
    · have h := cond_f hb h
      exact lfe_of h
  · have h := cond_f hb h
    exact lfe_of h

def st_osmosisref1_Take_L3 (p_b : List UInt8) (s11 : Int × Int) : List AV × WH := ([(l_B p_b), (.int .i64 s11.1), (.int .i64 s11.2)], [])
def fin_osmosisref1_Take_L3 (p_b : List UInt8) : (Int × Int × List UInt8) ⊕ Unit → Ex × Fast × WH := fun
  | .inl e => (.ret, [(2, (.int .i64 e.1)), (3, (.acc 0 0 1 e.2.2.length true)), (4, (.int .i64 e.2.1))], [(some (.cells (F_B e.2.2) false true))])
  | .inr e => ((.exit 0), [], [])
abbrev rx_osmosisref1_Take_L3 (p_b : List UInt8) := roundX [0, 5, 6] (st_osmosisref1_Take_L3 p_b) (fin_osmosisref1_Take_L3 p_b)
def osmosisref1_Take_L3_s (p_b : List UInt8) (s11 : Int × Int) : Option ((Int × Int) ⊕ ((Int × Int × List UInt8) ⊕ Unit)) :=
  cond (decide (s11.2 < (p_b.length : Int))) ((getI p_b s11.2).bind fun (x12 : UInt8) => (osmosisref1_Take_J1 s11 x12 p_b).bind fun (x15 : Int ⊕ Unit) => cond (isL x15) (some (.inr (.inl (0, (getL x15), [])))) ((shlI .i64 (Int.tmod (IntKind.i64.wrap (x12.toNat : Int)) 128) (IntKind.u64.wrap (IntKind.i64.wrap (7 * s11.2)))).bind fun (x17 : Int) => cond (decide ((IntKind.i64.wrap (x12.toNat : Int)) ≥ 128)) (some (.inl ((IntKind.i64.wrap (s11.1 + x17)), (IntKind.i64.wrap (s11.2 + 1))))) ((osmosisref1_Take_J2 x12 s11 p_b x17).bind fun (x18 : Unit ⊕ Unit) => cond (isL x18) (some (.inr (.inl (0, 2, [])))) ((slI p_b (IntKind.i64.wrap (s11.2 + 1)) p_b.length).bind fun (x20 : List UInt8) => gd (fitsB 1 x20.length) (some (.inr (.inl ((IntKind.i64.wrap (s11.1 + x17)), 0, x20)))))))) (some (.inr (.inr ())))
def osmosisref1_Take_L3 (p_b : List UInt8) (s11 : Int × Int) : Option ((Int × Int × List UInt8) ⊕ Unit) := loopX (osmosisref1_Take_L3_s p_b) KK s11
theorem b_osmosisref1_Take_L3 (d : Nat) {p_b : List UInt8} {s11 : Int × Int} {r : (Int × Int) ⊕ ((Int × Int × List UInt8) ⊕ Unit)} (h : osmosisref1_Take_L3_s p_b s11 = some r) : RunX (bexec (wcalls atab (d + 1)) KK 56 WB90_0) 0 (inL [0, 5, 6] (st_osmosisref1_Take_L3 p_b s11)) (rx_osmosisref1_Take_L3 p_b r) := by
  obtain ⟨x12, hx12⟩ := wx (getI p_b s11.2)
  obtain ⟨x15, hx15⟩ := wx (osmosisref1_Take_J1 s11 x12 p_b)
  obtain ⟨x17, hx17⟩ := wx (shlI .i64 (Int.tmod (IntKind.i64.wrap (x12.toNat : Int)) 128) (IntKind.u64.wrap (IntKind.i64.wrap (7 * s11.2))))
  obtain ⟨x18, hx18⟩ := wx (osmosisref1_Take_J2 x12 s11 p_b x17)
  obtain ⟨x20, hx20⟩ := wx (slI p_b (IntKind.i64.wrap (s11.2 + 1)) p_b.length)
  have e : ∀ C : ACalls, wCode C (fun _ => none) KK 56 0 WB90_0 (inL [0, 5, 6] (st_osmosisref1_Take_L3 p_b s11)).1 (inL [0, 5, 6] (st_osmosisref1_Take_L3 p_b s11)).2 (.br 11 (.v 16 (.elem ([(byteC x12)] ++ F_B (p_b.drop (s11.2.toNat + 1)))) (.ite (isL x15) (.jn [0, 5, 6, 7] [none, none, none, none] [] [] .ret [(2, (.int .i64 0)), (3, (.slice none 1 0 0 true)), (4, (.int .i64 (getL x15)))] [] (.en [2, 3, 4] [none, (some true), none] [] [])) (.jn [0, 5, 6, 7] [none, none, none, none] [] [] .normal [(0, (l_B p_b)), (5, (.int .i64 s11.1)), (6, (.int .i64 s11.2)), (7, (.int .i64 (IntKind.i64.wrap (x12.toNat : Int))))] [] (.v 39 (.int .i64 x17) (.br 42 (.en [0, 5, 6] [none, none, none] [] []) (.ite (isL x18) (.jn [0, 5, 6, 7] [none, none, none, none] [] [] .ret [(2, (.int .i64 0)), (3, (.slice none 1 0 0 true)), (4, (.int .i64 2))] [] (.en [2, 3, 4] [none, (some true), none] [] [])) (.jn [0, 5, 6, 7] [none, none, none, none] [] [] .normal [(0, (l_B p_b)), (5, (.int .i64 (IntKind.i64.wrap (s11.1 + x17)))), (6, (.int .i64 s11.2))] [] (.v 54 (l_B x20) (.ap 55 x20.length (F_B x20) (.en [2, 3, 4] [none, (some true), none] [] [])))))))))) (.en [] [] [] [])) (rx_osmosisref1_Take_L3 p_b r) = (((decide (s11.2 < (p_b.length : Int))) = true → (wP (.idxSlice 1 (.c (l_B p_b)) (.c (.int .i64 s11.2))) = some (.elem ([(byteC x12)] ++ F_B (p_b.drop (s11.2.toNat + 1)))) ∧ (((isL x15) = true → (RunS (bexec C KK 56 WJ90_bbabklbakba) 0 [(0, (l_B p_b)), (5, (.int .i64 s11.1)), (6, (.int .i64 s11.2)), (7, (.int .i64 (IntKind.i64.wrap (x12.toNat : Int))))] [] .ret [(2, (.int .i64 0)), (3, (.slice none 1 0 0 true)), (4, (.int .i64 (getL x15)))] [] ∧ (.ret = (rx_osmosisref1_Take_L3 p_b r).1 ∧ [(2, (.int .i64 0)), (3, (.acc 0 0 1 0 true)), (4, (.int .i64 (getL x15)))] = (rx_osmosisref1_Take_L3 p_b r).2.1 ∧ [(some (.cells (F_B []) false true))] = (rx_osmosisref1_Take_L3 p_b r).2.2))) ∧ ((isL x15) = false → (RunS (bexec C KK 56 WJ90_bbabklbakba) 0 [(0, (l_B p_b)), (5, (.int .i64 s11.1)), (6, (.int .i64 s11.2)), (7, (.int .i64 (IntKind.i64.wrap (x12.toNat : Int))))] [] .normal [(0, (l_B p_b)), (5, (.int .i64 s11.1)), (6, (.int .i64 s11.2)), (7, (.int .i64 (IntKind.i64.wrap (x12.toNat : Int))))] [] ∧ (aBin .shl (.int .i64 (Int.tmod (IntKind.i64.wrap (x12.toNat : Int)) 128)) (.int .u64 (IntKind.u64.wrap (IntKind.i64.wrap (7 * s11.2)))) = some (.int .i64 x17) ∧ (((decide ((IntKind.i64.wrap (x12.toNat : Int)) ≥ 128)) = true → lfe (rx_osmosisref1_Take_L3 p_b) (.inl ((IntKind.i64.wrap (s11.1 + x17)), (IntKind.i64.wrap (s11.2 + 1)))) r) ∧ ((decide ((IntKind.i64.wrap (x12.toNat : Int)) ≥ 128)) = false → (((isL x18) = true → (RunS (bexec C KK 56 WJ90_bbabklbakbbbba) 0 [(0, (l_B p_b)), (5, (.int .i64 (IntKind.i64.wrap (s11.1 + x17)))), (6, (.int .i64 s11.2)), (7, (.int .i64 (IntKind.i64.wrap (x12.toNat : Int))))] [] .ret [(2, (.int .i64 0)), (3, (.slice none 1 0 0 true)), (4, (.int .i64 2))] [] ∧ (.ret = (rx_osmosisref1_Take_L3 p_b r).1 ∧ [(2, (.int .i64 0)), (3, (.acc 0 0 1 0 true)), (4, (.int .i64 2))] = (rx_osmosisref1_Take_L3 p_b r).2.1 ∧ [(some (.cells (F_B []) false true))] = (rx_osmosisref1_Take_L3 p_b r).2.2))) ∧ ((isL x18) = false → (RunS (bexec C KK 56 WJ90_bbabklbakbbbba) 0 [(0, (l_B p_b)), (5, (.int .i64 (IntKind.i64.wrap (s11.1 + x17)))), (6, (.int .i64 s11.2)), (7, (.int .i64 (IntKind.i64.wrap (x12.toNat : Int))))] [] .normal [(0, (l_B p_b)), (5, (.int .i64 (IntKind.i64.wrap (s11.1 + x17)))), (6, (.int .i64 s11.2))] [] ∧ (wP (.slice 1 (.c (l_B p_b)) (some (.c (.int .i64 (IntKind.i64.wrap (s11.2 + 1))))) none none) = some (l_B x20) ∧ (0 + x20.length = x20.length ∧ (F_B [] ++ F_B x20 = F_B x20 ∧ (fitsB 1 x20.length = true ∧ lfe (rx_osmosisref1_Take_L3 p_b) (.inr (.inl ((IntKind.i64.wrap (s11.1 + x17)), 0, x20))) r))))))))))))))) ∧ ((decide (s11.2 < (p_b.length : Int))) = false → lfe (rx_osmosisref1_Take_L3 p_b) (.inr (.inr ())) r)) := fun C => by kernel_rfl
  refine runS_of (fun _ _ h => by cases h) WB90_0_ok (Nat.le_of_ble_eq_true rfl) ((e _).mpr ?_)
  unfold osmosisref1_Take_L3_s at h
  refine ⟨fun hb => ?_, fun hb => ?_⟩
  · have h := cond_t hb h
    obtain ⟨q12, h⟩ := bget hx12 h
    refine ⟨wP_idx R_B q12, ?_⟩
    obtain ⟨q15, h⟩ := bget hx15 h
    refine ⟨fun hb16 => ?_, fun hb16 => ?_⟩
    · have h := cond_t hb16 h
      refine ⟨by have h := s_osmosisref1_Take_J1 (d + 0) q15; rw [isL_t hb16] at h; exact h, ?_⟩
      obtain rfl := Option.some.inj h
      refine ⟨rfl, ?_, ?_⟩ <;> first | rfl | (simp only [rx_osmosisref1_Take_L3, roundX, zipKeep, fin_osmosisref1_Take_L3, st_osmosisref1_Take_L3, List.length_set, List.length_append, List.length_replicate, List.length_cons, List.length_nil, Nat.add_zero, Nat.zero_add]; done) | simp [rx_osmosisref1_Take_L3, roundX, zipKeep, fin_osmosisref1_Take_L3, st_osmosisref1_Take_L3]
    · have h := cond_f hb16 h
      refine ⟨by have h := s_osmosisref1_Take_J1 (d + 0) q15; rw [isL_f hb16] at h; exact h, ?_⟩
      obtain ⟨q17, h⟩ := bget hx17 h
      refine ⟨wP_shl q17, ?_⟩
      refine ⟨fun hb => ?_, fun hb => ?_⟩
      · have h := cond_t hb h
        exact lfe_of h
      · have h := cond_f hb h
        obtain ⟨q18, h⟩ := bget hx18 h
        refine ⟨fun hb19 => ?_, fun hb19 => ?_⟩
        · have h := cond_t hb19 h
          refine ⟨by have h := s_osmosisref1_Take_J2 (d + 1) q18; rw [isL_t hb19] at h; exact h, ?_⟩
          obtain rfl := Option.some.inj h
          refine ⟨rfl, ?_, ?_⟩ <;> first | rfl | (simp only [rx_osmosisref1_Take_L3, roundX, zipKeep, fin_osmosisref1_Take_L3, st_osmosisref1_Take_L3, List.length_set, List.length_append, List.length_replicate, List.length_cons, List.length_nil, Nat.add_zero, Nat.zero_add]; done) | simp [rx_osmosisref1_Take_L3, roundX, zipKeep, fin_osmosisref1_Take_L3, st_osmosisref1_Take_L3]
        · have h := cond_f hb19 h
          refine ⟨by have h := s_osmosisref1_Take_J2 (d + 1) q18; rw [isL_f hb19] at h; exact h, ?_⟩
          obtain ⟨q20, h⟩ := bget hx20 h
          refine ⟨wP_sl_l R_B q20, ?_⟩
          obtain ⟨q21, h⟩ := gd_some h
          refine ⟨by simp, ?_⟩
          refine ⟨by first | rfl | simp [F_B], ?_⟩
          refine ⟨q21, ?_⟩
          exact lfe_of h
  · have h := cond_f hb h
    exact lfe_of h
theorem s_osmosisref1_Take_L3 (d : Nat) {p_b : List UInt8} {s11 : Int × Int} {r : (Int × Int × List UInt8) ⊕ Unit} (h : osmosisref1_Take_L3 p_b s11 = some r) : RunX (bloop (bexec (wcalls atab (d + 1)) KK 56 WB90_0) [0, 5, 6] KK) 0 (inL [0, 5, 6] (st_osmosisref1_Take_L3 p_b s11)) (fin_osmosisref1_Take_L3 p_b r) :=
  loop_of (st := st_osmosisref1_Take_L3 p_b) (fin := fin_osmosisref1_Take_L3 p_b) (step := osmosisref1_Take_L3_s p_b) (fun e => by rcases e with e | e <;> (intro h; cases h)) (fun s x h => b_osmosisref1_Take_L3 d h) KK s11 r h

def osmosisref1_Take (p_b : List UInt8) : Option (Int × List UInt8 × Int) :=
  (osmosisref1_Take_L3 p_b (0, 0)).bind fun (x22 : (Int × Int × List UInt8) ⊕ Unit) => cond (isL x22) (some ((getL x22).1, (getL x22).2.2, (getL x22).2.1)) (some (0, [], 3))
def out_osmosisref1_Take (p_b : List UInt8) (r : Int × List UInt8 × Int) : AV × WH := ((.tuple [(.int .i64 r.1), (l_B r.2.1), (.int .i64 r.2.2)]), [])

theorem s_osmosisref1_Take (d : Nat) {p_b : List UInt8} {r : Int × List UInt8 × Int} (h : osmosisref1_Take p_b = some r) : Spec (wcalls atab (d + 2)) 90 [(l_B p_b)] [] (out_osmosisref1_Take p_b r).1 (out_osmosisref1_Take p_b r).2 := by
  obtain ⟨x22, hx22⟩ := wx (osmosisref1_Take_L3 p_b (0, 0))
  have e : ∀ C : ACalls, wBody C (fun _ => none) KK WF90 [(l_B p_b)] [] (.ite (isL x22) (.lp [none, none, none] [] [] .ret [(2, (.int .i64 ((getL x22).1))), (3, (.acc 0 0 1 (((getL x22).2.2).length) true)), (4, (.int .i64 ((getL x22).2.1)))] [(some (.cells (F_B ((getL x22).2.2)) false true))] (.fin (some false) [] none)) (.lp [none, none, none] [] [] (.exit 0) [] [] (.fin (some false) [] none))) (out_osmosisref1_Take p_b r).1 (out_osmosisref1_Take p_b r).2 = (1 = 1 ∧ 1 ≤ 56 ∧ (((isL x22) = true → (RunS (bloop (bexec C KK 56 WB90_0) [0, 5, 6] KK) 0 [(0, (l_B p_b)), (5, (.int .i64 0)), (6, (.int .i64 0))] [] .ret [(2, (.int .i64 ((getL x22).1))), (3, (.acc 0 0 1 (((getL x22).2.2).length) true)), (4, (.int .i64 ((getL x22).2.1)))] [(some (.cells (F_B ((getL x22).2.2)) false true))] ∧ lff (out_osmosisref1_Take p_b) ((getL x22).1, (getL x22).2.2, (getL x22).2.1) r)) ∧ ((isL x22) = false → (RunS (bloop (bexec C KK 56 WB90_0) [0, 5, 6] KK) 0 [(0, (l_B p_b)), (5, (.int .i64 0)), (6, (.int .i64 0))] [] (.exit 0) [] [] ∧ lff (out_osmosisref1_Take p_b) (0, [], 3) r)))) := fun C => by kernel_rfl
  refine spec_of (fun _ _ h => by cases h) rfl atab_90 WF90_ok ((e _).mpr ⟨rfl, by decide, ?_⟩)
  unfold osmosisref1_Take at h
  obtain ⟨q22, h⟩ := bget hx22 h
  refine ⟨fun hb23 => ?_, fun hb23 => ?_⟩
  · have h := cond_t hb23 h
    refine ⟨by have h := s_osmosisref1_Take_L3 (d + 0) q22; rw [isL_t hb23] at h; exact h, ?_⟩
    exact lff_of h
  · have h := cond_f hb23 h
    refine ⟨by have h := s_osmosisref1_Take_L3 (d + 0) q22; rw [isL_f hb23] at h; exact h, ?_⟩
    exact lff_of h

/- osmosis/osmosisref1.Frames -/
abbrev in_osmosisref1_Frames_J0 (x25 : Int × List UInt8 × Int) (p_b : List UInt8) (s23 : Int × List (List UInt8)) (x24 : List UInt8) : Fast × WH := ([(0, (l_B p_b)), (4, (.acc 0 0 1 s23.2.length true)), (5, (.int .i64 s23.1)), (6, (l_B x24)), (7, (.int .i64 x25.1)), (8, (l_B x25.2.1)), (9, (.int .i64 x25.2.2))], [(some (.cells (F_LB s23.2) false true))])
def fin_osmosisref1_Frames_J0 (x25 : Int × List UInt8 × Int) (p_b : List UInt8) (s23 : Int × List (List UInt8)) (x24 : List UInt8) : Bool → Ex × Fast × WH := fun e => (.normal, [(0, (l_B p_b)), (4, (.acc 0 0 1 s23.2.length true)), (5, (.int .i64 s23.1)), (6, (l_B x24)), (7, (.int .i64 x25.1)), (8, (l_B x25.2.1)), (32, (.bool e))], [(some (.cells (F_LB s23.2) false true))])
def osmosisref1_Frames_J0 (x25 : Int × List UInt8 × Int) (p_b : List UInt8) (s23 : Int × List (List UInt8)) (x24 : List UInt8) : Option (Bool) :=
  cond (x25.2.2 != 0) (some true) (cond (decide (x25.1 > 4000)) (some true) (some (decide ((x25.2.1.length : Int) < (IntKind.i64.wrap (8 + x25.1))))))
theorem s_osmosisref1_Frames_J0 (d : Nat) {x25 : Int × List UInt8 × Int} {p_b : List UInt8} {s23 : Int × List (List UInt8)} {x24 : List UInt8} {r : Bool} (h : osmosisref1_Frames_J0 x25 p_b s23 x24 = some r) : RunX (bexec (wcalls atab (d + 0)) KK 67 WJ29_bbbklkbbaa) 0 (in_osmosisref1_Frames_J0 x25 p_b s23 x24) (fin_osmosisref1_Frames_J0 x25 p_b s23 x24 r) := by
  have e : ∀ C : ACalls, wCode C (fun _ => none) KK 67 0 WJ29_bbbklkbbaa (in_osmosisref1_Frames_J0 x25 p_b s23 x24).1 (in_osmosisref1_Frames_J0 x25 p_b s23 x24).2 (.br 22 (.en [0, 4, 5, 6, 7, 8, 32] [none, none, none, none, none, none, none] [] []) (.br 26 (.en [0, 4, 5, 6, 7, 8, 32] [none, none, none, none, none, none, none] [] []) (.en [0, 4, 5, 6, 7, 8, 32] [none, none, none, none, none, none, none] [] []))) (fin_osmosisref1_Frames_J0 x25 p_b s23 x24 r) = (((x25.2.2 != 0) = true → lfe (fin_osmosisref1_Frames_J0 x25 p_b s23 x24) true r) ∧ ((x25.2.2 != 0) = false → (((decide (x25.1 > 4000)) = true → lfe (fin_osmosisref1_Frames_J0 x25 p_b s23 x24) true r) ∧ ((decide (x25.1 > 4000)) = false → lfe (fin_osmosisref1_Frames_J0 x25 p_b s23 x24) (decide ((x25.2.1.length : Int) < (IntKind.i64.wrap (8 + x25.1)))) r)))) := fun C => by kernel_rfl
  refine runS_of (fun _ _ h => by cases h) WJ29_bbbklkbbaa_ok (Nat.le_of_ble_eq_true rfl) ((e _).mpr ?_)
  unfold osmosisref1_Frames_J0 at h
  refine ⟨fun hb => ?_, fun hb => ?_⟩
  · have h := cond_t hb h
    exact lfe_of h
  · have h := cond_f hb h
    refine ⟨fun hb => ?_, fun hb => ?_⟩
    · have h := cond_t hb h
      exact lfe_of h
    · have h := cond_f hb h
      exact lfe_of h

abbrev in_osmosisref1_Frames_J1 (x25 : Int × List UInt8 × Int) (p_b : List UInt8) (s23 : Int × List (List UInt8)) (x24 : List UInt8) : Fast × WH := ([(0, (l_B p_b)), (4, (.acc 0 0 1 s23.2.length true)), (5, (.int .i64 s23.1)), (6, (l_B x24)), (7, (.int .i64 x25.1)), (8, (l_B x25.2.1)), (9, (.int .i64 x25.2.2))], [(some (.cells (F_LB s23.2) false true))])
def fin_osmosisref1_Frames_J1 (x25 : Int × List UInt8 × Int) (p_b : List UInt8) (s23 : Int × List (List UInt8)) (x24 : List UInt8) : Unit ⊕ Unit → Ex × Fast × WH := fun
  | .inl e => (.ret, [(2, (.acc 0 0 1 s23.2.length true)), (3, (.int .i64 s23.1))], [(some (.cells (F_LB s23.2) false true))])
  | .inr e => (.normal, [(0, (l_B p_b)), (4, (.acc 0 0 1 s23.2.length true)), (5, (.int .i64 s23.1)), (6, (l_B x24)), (7, (.int .i64 x25.1)), (8, (l_B x25.2.1))], [(some (.cells (F_LB s23.2) false true))])
def osmosisref1_Frames_J1 (x25 : Int × List UInt8 × Int) (p_b : List UInt8) (s23 : Int × List (List UInt8)) (x24 : List UInt8) : Option (Unit ⊕ Unit) :=
  (osmosisref1_Frames_J0 x25 p_b s23 x24).bind fun (x26 : Bool) => cond x26 (some (.inl ())) (some (.inr ()))
theorem s_osmosisref1_Frames_J1 (d : Nat) {x25 : Int × List UInt8 × Int} {p_b : List UInt8} {s23 : Int × List (List UInt8)} {x24 : List UInt8} {r : Unit ⊕ Unit} (h : osmosisref1_Frames_J1 x25 p_b s23 x24 = some r) : RunX (bexec (wcalls atab (d + 0)) KK 67 WJ29_bbbklkbba) 0 (in_osmosisref1_Frames_J1 x25 p_b s23 x24) (fin_osmosisref1_Frames_J1 x25 p_b s23 x24 r) := by
  obtain ⟨x26, hx26⟩ := wx (osmosisref1_Frames_J0 x25 p_b s23 x24)
  have e : ∀ C : ACalls, wCode C (fun _ => none) KK 67 0 WJ29_bbbklkbba (in_osmosisref1_Frames_J1 x25 p_b s23 x24).1 (in_osmosisref1_Frames_J1 x25 p_b s23 x24).2 (.jn [0, 4, 5, 6, 7, 8, 9] [none, none, none, none, none, none, none] [] [] .normal [(0, (l_B p_b)), (4, (.acc 0 0 1 s23.2.length true)), (5, (.int .i64 s23.1)), (6, (l_B x24)), (7, (.int .i64 x25.1)), (8, (l_B x25.2.1)), (32, (.bool x26))] [(some (.cells (F_LB s23.2) false true))] (.br 32 (.en [2, 3] [none, none] [] []) (.en [0, 4, 5, 6, 7, 8] [none, none, none, none, none, none] [] []))) (fin_osmosisref1_Frames_J1 x25 p_b s23 x24 r) = (RunS (bexec C KK 67 WJ29_bbbklkbbaa) 0 [(0, (l_B p_b)), (4, (.acc 0 0 1 s23.2.length true)), (5, (.int .i64 s23.1)), (6, (l_B x24)), (7, (.int .i64 x25.1)), (8, (l_B x25.2.1)), (9, (.int .i64 x25.2.2))] [(some (.cells (F_LB s23.2) false true))] .normal [(0, (l_B p_b)), (4, (.acc 0 0 1 s23.2.length true)), (5, (.int .i64 s23.1)), (6, (l_B x24)), (7, (.int .i64 x25.1)), (8, (l_B x25.2.1)), (32, (.bool x26))] [(some (.cells (F_LB s23.2) false true))] ∧ ((x26 = true → lfe (fin_osmosisref1_Frames_J1 x25 p_b s23 x24) (.inl ()) r) ∧ (x26 = false → lfe (fin_osmosisref1_Frames_J1 x25 p_b s23 x24) (.inr ()) r))) := fun C => by kernel_rfl
  refine runS_of (fun _ _ h => by cases h) WJ29_bbbklkbba_ok (Nat.le_of_ble_eq_true rfl) ((e _).mpr ?_)
  unfold osmosisref1_Frames_J1 at h
  obtain ⟨q26, h⟩ := bget hx26 h
  refine ⟨s_osmosisref1_Frames_J0 (d + 0) q26, ?_⟩
  refine ⟨fun hb => ?_, fun hb => ?_⟩
  · have h := cond_t hb h
    exact lfe_of h
  · have h := cond_f hb h
    exact lfe_of h

def st_osmosisref1_Frames_L2 (p_b : List UInt8) (s23 : Int × List (List UInt8)) : List AV × WH := ([(l_B p_b), (.acc 0 0 1 s23.2.length true), (.int .i64 s23.1)], [(some (.cells (F_LB s23.2) false true))])
def fin_osmosisref1_Frames_L2 (p_b : List UInt8) : (Int × List (List UInt8)) → Ex × Fast × WH := fun e => (.ret, [(2, (.acc 0 0 1 e.2.length true)), (3, (.int .i64 e.1))], [(some (.cells (F_LB e.2) false true))])
abbrev rx_osmosisref1_Frames_L2 (p_b : List UInt8) := roundX [0, 4, 5] (st_osmosisref1_Frames_L2 p_b) (fin_osmosisref1_Frames_L2 p_b)
def osmosisref1_Frames_L2_s (p_b : List UInt8) (s23 : Int × List (List UInt8)) : Option ((Int × List (List UInt8)) ⊕ ((Int × List (List UInt8)))) :=
  (slI p_b s23.1 p_b.length).bind fun (x24 : List UInt8) => (osmosisref1_Take x24).bind fun (x25 : Int × List UInt8 × Int) => (osmosisref1_Frames_J1 x25 p_b s23 x24).bind fun (x27 : Unit ⊕ Unit) => cond (isL x27) (some (.inr (s23.1, s23.2))) ((slI x25.2.1 8 (IntKind.i64.wrap (8 + x25.1))).bind fun (x29 : List UInt8) => gd (fitsB 1 x29.length) ((osmosisref1_Sum [x29]).bind fun (x31 : Int) => (osmosisref1_eight x31).bind fun (x32 : List UInt8) => (slI x25.2.1 0 8).bind fun (x33 : List UInt8) => cond (!(x33 == x32)) (some (.inr (s23.1, s23.2))) (gd (fitsB 24 (s23.2 ++ [x29]).length) (some (.inl ((IntKind.i64.wrap ((IntKind.i64.wrap ((IntKind.i64.wrap ((IntKind.i64.wrap (s23.1 + (x24.length : Int))) - (x25.2.1.length : Int))) + 8)) + x25.1)), (s23.2 ++ [x29])))))))
def osmosisref1_Frames_L2 (p_b : List UInt8) (s23 : Int × List (List UInt8)) : Option ((Int × List (List UInt8))) := loopX (osmosisref1_Frames_L2_s p_b) KK s23
theorem b_osmosisref1_Frames_L2 (d : Nat) {p_b : List UInt8} {s23 : Int × List (List UInt8)} {r : (Int × List (List UInt8)) ⊕ ((Int × List (List UInt8)))} (h : osmosisref1_Frames_L2_s p_b s23 = some r) : RunX (bexec (wcalls atab (d + 2)) KK 67 WB29_0) 0 (inL [0, 4, 5] (st_osmosisref1_Frames_L2 p_b s23)) (rx_osmosisref1_Frames_L2 p_b r) := by
  obtain ⟨x24, hx24⟩ := wx (slI p_b s23.1 p_b.length)
  obtain ⟨x25, hx25⟩ := wx (osmosisref1_Take x24)
  obtain ⟨x27, hx27⟩ := wx (osmosisref1_Frames_J1 x25 p_b s23 x24)
  obtain ⟨x29, hx29⟩ := wx (slI x25.2.1 8 (IntKind.i64.wrap (8 + x25.1)))
  obtain ⟨x31, hx31⟩ := wx (osmosisref1_Sum [x29])
  obtain ⟨x32, hx32⟩ := wx (osmosisref1_eight x31)
  obtain ⟨x33, hx33⟩ := wx (slI x25.2.1 0 8)
  have e : ∀ C : ACalls, wCode C (fun _ => none) KK 67 0 WB29_0 (inL [0, 4, 5] (st_osmosisref1_Frames_L2 p_b s23)).1 (inL [0, 4, 5] (st_osmosisref1_Frames_L2 p_b s23)).2 (.v 13 (l_B x24) (.call [] (some false) [] (.tuple [(.int .i64 x25.1), (l_B x25.2.1), (.int .i64 x25.2.2)]) [] (.ite (isL x27) (.jn [0, 4, 5, 6, 7, 8, 9] [none, none, none, none, none, none, none] [] [] .ret [(2, (.acc 0 0 1 s23.2.length true)), (3, (.int .i64 s23.1))] [(some (.cells (F_LB s23.2) false true))] (.en [2, 3] [none, none] [] [])) (.jn [0, 4, 5, 6, 7, 8, 9] [none, none, none, none, none, none, none] [] [] .normal [(0, (l_B p_b)), (4, (.acc 0 0 1 s23.2.length true)), (5, (.int .i64 s23.1)), (6, (l_B x24)), (7, (.int .i64 x25.1)), (8, (l_B x25.2.1))] [(some (.cells (F_LB s23.2) false true))] (.v 39 (l_B x29) (.ap 40 x29.length (F_B x29) (.v 45 (.str x29) (.cb [] [] (.int .u64 x31) (.call [] (some false) [] (l_B x32) [] (.v 42 (l_B x33) (.v 43 (.str x33) (.v 49 (.str x32) (.br 50 (.en [2, 3] [none, none] [] []) (.ap 56 (s23.2 ++ [x29]).length (F_LB (s23.2 ++ [x29])) (.en [0, 4, 5] [none, none, none] [] []))))))))))))))) (rx_osmosisref1_Frames_L2 p_b r) = (wP (.slice 1 (.c (l_B p_b)) (some (.c (.int .i64 s23.1))) none none) = some (l_B x24) ∧ (Spec C 90 [(l_B x24)] [] (.tuple [(.int .i64 x25.1), (l_B x25.2.1), (.int .i64 x25.2.2)]) [] ∧ (0 ≤ 0 ∧ (((isL x27) = true → (RunS (bexec C KK 67 WJ29_bbbklkbba) 0 [(0, (l_B p_b)), (4, (.acc 0 0 1 s23.2.length true)), (5, (.int .i64 s23.1)), (6, (l_B x24)), (7, (.int .i64 x25.1)), (8, (l_B x25.2.1)), (9, (.int .i64 x25.2.2))] [(some (.cells (F_LB s23.2) false true))] .ret [(2, (.acc 0 0 1 s23.2.length true)), (3, (.int .i64 s23.1))] [(some (.cells (F_LB s23.2) false true))] ∧ lfe (rx_osmosisref1_Frames_L2 p_b) (.inr (s23.1, s23.2)) r)) ∧ ((isL x27) = false → (RunS (bexec C KK 67 WJ29_bbbklkbba) 0 [(0, (l_B p_b)), (4, (.acc 0 0 1 s23.2.length true)), (5, (.int .i64 s23.1)), (6, (l_B x24)), (7, (.int .i64 x25.1)), (8, (l_B x25.2.1)), (9, (.int .i64 x25.2.2))] [(some (.cells (F_LB s23.2) false true))] .normal [(0, (l_B p_b)), (4, (.acc 0 0 1 s23.2.length true)), (5, (.int .i64 s23.1)), (6, (l_B x24)), (7, (.int .i64 x25.1)), (8, (l_B x25.2.1))] [(some (.cells (F_LB s23.2) false true))] ∧ (wP (.slice 1 (.c (l_B x25.2.1)) (some (.c (.int .i64 8))) (some (.c (.int .i64 (IntKind.i64.wrap (8 + x25.1))))) none) = some (l_B x29) ∧ (0 + x29.length = x29.length ∧ (F_B [] ++ F_B x29 = F_B x29 ∧ (fitsB 1 x29.length = true ∧ ((toBytes (F_B x29)).map AV.str = some (.str x29) ∧ (Spec C 89 [(l_S [x29])] [] (.int .u64 x31) [] ∧ (Spec C 88 [(.int .u64 x31)] [] (l_B x32) [] ∧ (0 ≤ 0 ∧ (wP (.slice 1 (.c (l_B x25.2.1)) none (some (.c (.int .i64 8))) none) = some (l_B x33) ∧ ((toBytes (F_B x33)).map AV.str = some (.str x33) ∧ ((toBytes (F_B x32)).map AV.str = some (.str x32) ∧ (((!(x33 == x32)) = true → lfe (rx_osmosisref1_Frames_L2 p_b) (.inr (s23.1, s23.2)) r) ∧ ((!(x33 == x32)) = false → (s23.2.length + 1 = (s23.2 ++ [x29]).length ∧ (F_LB s23.2 ++ F_LB [x29] = F_LB (s23.2 ++ [x29]) ∧ (fitsB 24 (s23.2 ++ [x29]).length = true ∧ lfe (rx_osmosisref1_Frames_L2 p_b) (.inl ((IntKind.i64.wrap ((IntKind.i64.wrap ((IntKind.i64.wrap ((IntKind.i64.wrap (s23.1 + (x24.length : Int))) - (x25.2.1.length : Int))) + 8)) + x25.1)), (s23.2 ++ [x29]))) r)))))))))))))))))))))) := fun C => by kernel_rfl
  refine runS_of (fun _ _ h => by cases h) WB29_0_ok (Nat.le_of_ble_eq_true rfl) ((e _).mpr ?_)
  unfold osmosisref1_Frames_L2_s at h
  obtain ⟨q24, h⟩ := bget hx24 h
  refine ⟨wP_sl_l R_B q24, ?_⟩
  obtain ⟨q25, h⟩ := bget hx25 h
  refine ⟨s_osmosisref1_Take (d + 0) q25, ?_⟩
  refine ⟨by decide, ?_⟩
  obtain ⟨q27, h⟩ := bget hx27 h
  refine ⟨fun hb28 => ?_, fun hb28 => ?_⟩
  · have h := cond_t hb28 h
    refine ⟨by have h := s_osmosisref1_Frames_J1 (d + 2) q27; rw [isL_t hb28] at h; exact h, ?_⟩
    exact lfe_of h
  · have h := cond_f hb28 h
    refine ⟨by have h := s_osmosisref1_Frames_J1 (d + 2) q27; rw [isL_f hb28] at h; exact h, ?_⟩
    obtain ⟨q29, h⟩ := bget hx29 h
    refine ⟨wP_sl_lh R_B q29, ?_⟩
    obtain ⟨q30, h⟩ := gd_some h
    refine ⟨by simp, ?_⟩
    refine ⟨by first | rfl | simp [F_B], ?_⟩
    refine ⟨q30, ?_⟩
    refine ⟨by rw [show F_B x29 = (x29).map byteC from rfl, toBytes_map]; rfl, ?_⟩
    obtain ⟨q31, h⟩ := bget hx31 h
    refine ⟨s_osmosisref1_Sum (d + 0) q31, ?_⟩
    obtain ⟨q32, h⟩ := bget hx32 h
    refine ⟨s_osmosisref1_eight (d + 1) q32, ?_⟩
    refine ⟨by decide, ?_⟩
    obtain ⟨q33, h⟩ := bget hx33 h
    refine ⟨wP_sl_h R_B q33, ?_⟩
    refine ⟨by rw [show F_B x33 = (x33).map byteC from rfl, toBytes_map]; rfl, ?_⟩
    refine ⟨by rw [show F_B x32 = (x32).map byteC from rfl, toBytes_map]; rfl, ?_⟩
    refine ⟨fun hb => ?_, fun hb => ?_⟩
    · have h := cond_t hb h
      exact lfe_of h
    · have h := cond_f hb h
      obtain ⟨q34, h⟩ := gd_some h
      refine ⟨by simp, ?_⟩
      refine ⟨(Row.app R_LB _ _).symm, ?_⟩
      refine ⟨q34, ?_⟩
      exact lfe_of h
theorem s_osmosisref1_Frames_L2 (d : Nat) {p_b : List UInt8} {s23 : Int × List (List UInt8)} {r : (Int × List (List UInt8))} (h : osmosisref1_Frames_L2 p_b s23 = some r) : RunX (bloop (bexec (wcalls atab (d + 2)) KK 67 WB29_0) [0, 4, 5] KK) 0 (inL [0, 4, 5] (st_osmosisref1_Frames_L2 p_b s23)) (fin_osmosisref1_Frames_L2 p_b r) :=
  loop_of (st := st_osmosisref1_Frames_L2 p_b) (fin := fin_osmosisref1_Frames_L2 p_b) (step := osmosisref1_Frames_L2_s p_b) (fun e => by (intro h; cases h)) (fun s x h => b_osmosisref1_Frames_L2 d h) KK s23 r h

def osmosisref1_Frames (p_b : List UInt8) : Option (List (List UInt8) × Int) :=
  (osmosisref1_Frames_L2 p_b (0, [])).bind fun (x35 : (Int × List (List UInt8))) => some (x35.2, x35.1)
def out_osmosisref1_Frames (p_b : List UInt8) (r : List (List UInt8) × Int) : AV × WH := ((.tuple [(l_LB r.1), (.int .i64 r.2)]), [])

theorem s_osmosisref1_Frames (d : Nat) {p_b : List UInt8} {r : List (List UInt8) × Int} (h : osmosisref1_Frames p_b = some r) : Spec (wcalls atab (d + 3)) 29 [(l_B p_b)] [] (out_osmosisref1_Frames p_b r).1 (out_osmosisref1_Frames p_b r).2 := by
  obtain ⟨x35, hx35⟩ := wx (osmosisref1_Frames_L2 p_b (0, []))
  have e : ∀ C : ACalls, wBody C (fun _ => none) KK WF29 [(l_B p_b)] [] (.lp [none, (some true), none] [] [] .ret [(2, (.acc 0 0 1 x35.2.length true)), (3, (.int .i64 x35.1))] [(some (.cells (F_LB x35.2) false true))] (.fin (some false) [] none)) (out_osmosisref1_Frames p_b r).1 (out_osmosisref1_Frames p_b r).2 = (1 = 1 ∧ 1 ≤ 67 ∧ (RunS (bloop (bexec C KK 67 WB29_0) [0, 4, 5] KK) 0 [(0, (l_B p_b)), (4, (.acc 0 0 1 0 true)), (5, (.int .i64 0))] [(some (.cells (F_LB []) false true))] .ret [(2, (.acc 0 0 1 x35.2.length true)), (3, (.int .i64 x35.1))] [(some (.cells (F_LB x35.2) false true))] ∧ lff (out_osmosisref1_Frames p_b) (x35.2, x35.1) r)) := fun C => by kernel_rfl
  refine spec_of (fun _ _ h => by cases h) rfl atab_29 WF29_ok ((e _).mpr ⟨rfl, by decide, ?_⟩)
  unfold osmosisref1_Frames at h
  obtain ⟨q35, h⟩ := bget hx35 h
  refine ⟨s_osmosisref1_Frames_L2 (d + 0) q35, ?_⟩
  exact lff_of h

end Go.Proofs.Ytachollgbplikaa
