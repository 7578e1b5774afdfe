/- Functions as Lean functions, part 3. -/
import Derived.Test.YtachollgbplikaaXt
import Derived.Test.YtachollgbplikaaXs
import Derived.Test.YtachollgbplikaaY2
set_option linter.all false
set_option maxRecDepth 100000
namespace Go.Proofs.Ytachollgbplikaa
/- osmosis/osmosislaw3.FrameTells -/
abbrev in_osmosislaw3_FrameTells_J0 (x6 : List UInt8) (p_at : Int) (raw : List UInt8) (p_with : UInt8) (cut : Int) : Fast × WH := ([(2, (l_B raw)), (3, (.int .i64 p_at)), (4, (.int .u8 (p_with.toNat : Int))), (5, (.int .i64 cut)), (14, (.acc 0 0 1 x6.length true))], [(some (.cells (F_B x6) false true))])
def fin_osmosislaw3_FrameTells_J0 (x6 : List UInt8) (p_at : Int) (raw : List UInt8) (p_with : UInt8) (cut : Int) : Bool → Ex × Fast × WH := fun e => (.normal, [(2, (l_B raw)), (3, (.int .i64 p_at)), (4, (.int .u8 (p_with.toNat : Int))), (5, (.int .i64 cut)), (14, (.acc 0 0 1 x6.length true)), (44, (.bool e))], [(some (.cells (F_B x6) false true))])
def osmosislaw3_FrameTells_J0 (x6 : List UInt8) (p_at : Int) (raw : List UInt8) (p_with : UInt8) (cut : Int) : Option (Bool) :=
  cond (decide ((x6.length : Int) > 0)) (some ((Int.tmod p_at 3) == 0)) (some false)
theorem s_osmosislaw3_FrameTells_J0 (d : Nat) {x6 : List UInt8} {p_at : Int} {raw : List UInt8} {p_with : UInt8} {cut : Int} {r : Bool} (h : osmosislaw3_FrameTells_J0 x6 p_at raw p_with cut = some r) : RunX (bexec (wcalls atab (d + 0)) KK 112 WJ4_bbbbaa) 0 (in_osmosislaw3_FrameTells_J0 x6 p_at raw p_with cut) (fin_osmosislaw3_FrameTells_J0 x6 p_at raw p_with cut r) := by
  have e : ∀ C : ACalls, wCode C (fun _ => none) KK 112 0 WJ4_bbbbaa (in_osmosislaw3_FrameTells_J0 x6 p_at raw p_with cut).1 (in_osmosislaw3_FrameTells_J0 x6 p_at raw p_with cut).2 (.br 40 (.en [2, 3, 4, 5, 14, 44] [none, none, none, none, none, none] [] []) (.en [2, 3, 4, 5, 14, 44] [none, none, none, none, none, none] [] [])) (fin_osmosislaw3_FrameTells_J0 x6 p_at raw p_with cut r) = (((decide ((x6.length : Int) > 0)) = true → lfe (fin_osmosislaw3_FrameTells_J0 x6 p_at raw p_with cut) ((Int.tmod p_at 3) == 0) r) ∧ ((decide ((x6.length : Int) > 0)) = false → lfe (fin_osmosislaw3_FrameTells_J0 x6 p_at raw p_with cut) false r)) := fun C => by kernel_rfl
  refine runS_of (fun _ _ h => by cases h) WJ4_bbbbaa_ok (Nat.le_of_ble_eq_true rfl) ((e _).mpr ?_)
  unfold osmosislaw3_FrameTells_J0 at h
  refine ⟨fun hb => ?_, fun hb => ?_⟩
  · have h := cond_t hb h
    exact lfe_of h
  · have h := cond_f hb h
    exact lfe_of h

abbrev in_osmosislaw3_FrameTells_J1 (x6 : List UInt8) (p_at : Int) (raw : List UInt8) (p_with : UInt8) (cut : Int) : Fast × WH := ([(2, (l_B raw)), (3, (.int .i64 p_at)), (4, (.int .u8 (p_with.toNat : Int))), (5, (.int .i64 cut)), (14, (.acc 0 0 1 x6.length true))], [(some (.cells (F_B x6) false true))])
def fin_osmosislaw3_FrameTells_J1 (x6 : List UInt8) (p_at : Int) (raw : List UInt8) (p_with : UInt8) (cut : Int) : (List UInt8) → Ex × Fast × WH := fun e => (.normal, [(2, (l_B raw)), (5, (.int .i64 cut)), (14, (.acc 0 0 1 e.length true))], [(some (.cells (F_B e) false true))])
def osmosislaw3_FrameTells_J1 (x6 : List UInt8) (p_at : Int) (raw : List UInt8) (p_with : UInt8) (cut : Int) : Option ((List UInt8)) :=
  (osmosislaw3_FrameTells_J0 x6 p_at raw p_with cut).bind fun (x7 : Bool) => cond x7 ((osmosishand_Pick (IntKind.i64.wrap (Int.tdiv p_at 3)) (x6.length : Int)).bind fun (x8 : Int) => (getI x6 x8).bind fun (x9 : UInt8) => (getI x6 x8).bind fun (x10 : UInt8) => some (x6.set x8.toNat (u8w (xorI .u8 (x9.toNat : Int) (p_with.toNat : Int))))) (some x6)
theorem s_osmosislaw3_FrameTells_J1 (d : Nat) {x6 : List UInt8} {p_at : Int} {raw : List UInt8} {p_with : UInt8} {cut : Int} {r : (List UInt8)} (h : osmosislaw3_FrameTells_J1 x6 p_at raw p_with cut = some r) : RunX (bexec (wcalls atab (d + 1)) KK 112 WJ4_bbbba) 0 (in_osmosislaw3_FrameTells_J1 x6 p_at raw p_with cut) (fin_osmosislaw3_FrameTells_J1 x6 p_at raw p_with cut r) := by
  obtain ⟨x7, hx7⟩ := wx (osmosislaw3_FrameTells_J0 x6 p_at raw p_with cut)
  obtain ⟨x8, hx8⟩ := wx (osmosishand_Pick (IntKind.i64.wrap (Int.tdiv p_at 3)) (x6.length : Int))
  obtain ⟨x9, hx9⟩ := wx (getI x6 x8)
  obtain ⟨x10, hx10⟩ := wx (getI x6 x8)
  have e : ∀ C : ACalls, wCode C (fun _ => none) KK 112 0 WJ4_bbbba (in_osmosislaw3_FrameTells_J1 x6 p_at raw p_with cut).1 (in_osmosislaw3_FrameTells_J1 x6 p_at raw p_with cut).2 (.jn [2, 3, 4, 5, 14] [none, none, none, none, none] [] [] .normal [(2, (l_B raw)), (3, (.int .i64 p_at)), (4, (.int .u8 (p_with.toNat : Int))), (5, (.int .i64 cut)), (14, (.acc 0 0 1 x6.length true)), (44, (.bool x7))] [(some (.cells (F_B x6) false true))] (.br 44 (.cb [] [] (.int .i64 x8) (.v 51 (.ptr (some (0, 0 + x8.toNat * 1))) (.v 52 (.int .u8 (x9.toNat : Int)) (.v 54 (.int .u8 ((u8w (xorI .u8 (x9.toNat : Int) (p_with.toNat : Int))).toNat : Int)) (.v 55 (.ptr (some (0, 0 + x8.toNat * 1))) (.st (some (F_B (x6.set x8.toNat (u8w (xorI .u8 (x9.toNat : Int) (p_with.toNat : Int)))))) (.en [2, 5, 14] [none, none, none] [] []))))))) (.en [2, 5, 14] [none, none, none] [] []))) (fin_osmosislaw3_FrameTells_J1 x6 p_at raw p_with cut r) = (RunS (bexec C KK 112 WJ4_bbbbaa) 0 [(2, (l_B raw)), (3, (.int .i64 p_at)), (4, (.int .u8 (p_with.toNat : Int))), (5, (.int .i64 cut)), (14, (.acc 0 0 1 x6.length true))] [(some (.cells (F_B x6) false true))] .normal [(2, (l_B raw)), (3, (.int .i64 p_at)), (4, (.int .u8 (p_with.toNat : Int))), (5, (.int .i64 cut)), (14, (.acc 0 0 1 x6.length true)), (44, (.bool x7))] [(some (.cells (F_B x6) false true))] ∧ ((x7 = true → (Spec C 28 [(.int .i64 (IntKind.i64.wrap (Int.tdiv p_at 3))), (.int .i64 (x6.length : Int))] [] (.int .i64 x8) [] ∧ (wP (.idxSlice 1 (.c (.acc 0 0 1 x6.length true)) (.c (.int .i64 x8))) = some (.ptr (some (0, 0 + x8.toNat * 1))) ∧ (cPart false (0 + x8.toNat * 1) 1 (F_B x6) = some (.int .u8 (x9.toNat : Int)) ∧ (@Eq (Option AV) (some (.int .u8 (xorI .u8 (x9.toNat : Int) (p_with.toNat : Int)))) (some (.int .u8 ((u8w (xorI .u8 (x9.toNat : Int) (p_with.toNat : Int))).toNat : Int))) ∧ (wP (.idxSlice 1 (.c (.acc 0 0 1 x6.length true)) (.c (.int .i64 x8))) = some (.ptr (some (0, 0 + x8.toNat * 1))) ∧ (wrC (F_B x6) (0 + x8.toNat * 1) [(.int .u8 ((u8w (xorI .u8 (x9.toNat : Int) (p_with.toNat : Int))).toNat : Int))] = some (F_B (x6.set x8.toNat (u8w (xorI .u8 (x9.toNat : Int) (p_with.toNat : Int))))) ∧ (.normal = (fin_osmosislaw3_FrameTells_J1 x6 p_at raw p_with cut r).1 ∧ [(2, (l_B raw)), (5, (.int .i64 cut)), (14, (.acc 0 0 1 x6.length true))] = (fin_osmosislaw3_FrameTells_J1 x6 p_at raw p_with cut r).2.1 ∧ [(some (.cells (F_B (x6.set x8.toNat (u8w (xorI .u8 (x9.toNat : Int) (p_with.toNat : Int))))) false true))] = (fin_osmosislaw3_FrameTells_J1 x6 p_at raw p_with cut r).2.2)))))))) ∧ (x7 = false → lfe (fin_osmosislaw3_FrameTells_J1 x6 p_at raw p_with cut) x6 r))) := fun C => by kernel_rfl
  refine runS_of (fun _ _ h => by cases h) WJ4_bbbba_ok (Nat.le_of_ble_eq_true rfl) ((e _).mpr ?_)
  unfold osmosislaw3_FrameTells_J1 at h
  obtain ⟨q7, h⟩ := bget hx7 h
  refine ⟨s_osmosislaw3_FrameTells_J0 (d + 1) q7, ?_⟩
  refine ⟨fun hb => ?_, fun hb => ?_⟩
  · have h := cond_t hb h
    obtain ⟨q8, h⟩ := bget hx8 h
    refine ⟨s_osmosishand_Pick (d + 0) q8, ?_⟩
    obtain ⟨q9, h⟩ := bget hx9 h
    refine ⟨wP_idxA R_B q9, ?_⟩
    refine ⟨cP_row (o := 0) R_B q9 rfl, ?_⟩
    refine ⟨u8_of rfl, ?_⟩
    obtain ⟨q10, h⟩ := bget hx10 h
    refine ⟨wP_idxA R_B q10, ?_⟩
    refine ⟨wr_row (o := 0) R_B q10 rfl, ?_⟩
    try rw [show AV.list 1 x6.length (F_B (x6.set x8.toNat (u8w (xorI .u8 (x9.toNat : Int) (p_with.toNat : Int))))) false = l_B (x6.set x8.toNat (u8w (xorI .u8 (x9.toNat : Int) (p_with.toNat : Int)))) from by simp only [l_B, List.length_set]]
    obtain rfl := Option.some.inj h
    refine ⟨rfl, ?_, ?_⟩ <;> first | rfl | (simp only [roundX, zipKeep, fin_osmosislaw3_FrameTells_J1, List.length_set, List.length_append, List.length_replicate, List.length_cons, List.length_nil, Nat.add_zero, Nat.zero_add]; done) | simp [roundX, zipKeep, fin_osmosislaw3_FrameTells_J1]
  · have h := cond_f hb h
    exact lfe_of h

abbrev in_osmosislaw3_FrameTells_J2 (cut : Int) (x11 : (List UInt8)) (raw : List UInt8) : Fast × WH := ([(2, (l_B raw)), (5, (.int .i64 cut)), (14, (.acc 0 0 1 x11.length true))], [(some (.cells (F_B x11) false true))])
def fin_osmosislaw3_FrameTells_J2 (cut : Int) (x11 : (List UInt8)) (raw : List UInt8) : (List UInt8) → Ex × Fast × WH := fun e => (.normal, [(2, (l_B raw)), (14, (l_B e))], [])
def osmosislaw3_FrameTells_J2 (cut : Int) (x11 : (List UInt8)) (raw : List UInt8) : Option ((List UInt8)) :=
  cond ((Int.tmod cut 2) == 0) ((osmosishand_Pick (IntKind.i64.wrap (Int.tdiv cut 2)) (IntKind.i64.wrap ((x11.length : Int) + 1))).bind fun (x12 : Int) => (slI x11 0 x12).bind fun (x13 : List UInt8) => some x13) (some x11)
theorem s_osmosislaw3_FrameTells_J2 (d : Nat) {cut : Int} {x11 : (List UInt8)} {raw : List UInt8} {r : (List UInt8)} (h : osmosislaw3_FrameTells_J2 cut x11 raw = some r) : RunX (bexec (wcalls atab (d + 1)) KK 112 WJ4_bbbbba) 0 (in_osmosislaw3_FrameTells_J2 cut x11 raw) (fin_osmosislaw3_FrameTells_J2 cut x11 raw r) := by
  obtain ⟨x12, hx12⟩ := wx (osmosishand_Pick (IntKind.i64.wrap (Int.tdiv cut 2)) (IntKind.i64.wrap ((x11.length : Int) + 1)))
  obtain ⟨x13, hx13⟩ := wx (slI x11 0 x12)
  have e : ∀ C : ACalls, wCode C (fun _ => none) KK 112 0 WJ4_bbbbba (in_osmosislaw3_FrameTells_J2 cut x11 raw).1 (in_osmosislaw3_FrameTells_J2 cut x11 raw).2 (.br 58 (.cb [] [] (.int .i64 x12) (.v 66 (.acc 0 0 1 x13.length false) (.en [2, 14] [none, (some false)] [] []))) (.en [2, 14] [none, (some false)] [] [])) (fin_osmosislaw3_FrameTells_J2 cut x11 raw r) = ((((Int.tmod cut 2) == 0) = true → (Spec C 28 [(.int .i64 (IntKind.i64.wrap (Int.tdiv cut 2))), (.int .i64 (IntKind.i64.wrap ((x11.length : Int) + 1)))] [] (.int .i64 x12) [] ∧ (wP (.slice 1 (.c (.acc 0 0 1 x11.length true)) none (some (.c (.int .i64 x12))) none) = some (.acc 0 0 1 x13.length false) ∧ (.normal = (fin_osmosislaw3_FrameTells_J2 cut x11 raw r).1 ∧ [(2, (l_B raw)), (14, (.list 1 x13.length (((F_B x11).drop (0)).take (x13.length * 1)) false))] = (fin_osmosislaw3_FrameTells_J2 cut x11 raw r).2.1 ∧ [] = (fin_osmosislaw3_FrameTells_J2 cut x11 raw r).2.2)))) ∧ (((Int.tmod cut 2) == 0) = false → lfe (fin_osmosislaw3_FrameTells_J2 cut x11 raw) x11 r)) := fun C => by kernel_rfl
  refine runS_of (fun _ _ h => by cases h) WJ4_bbbbba_ok (Nat.le_of_ble_eq_true rfl) ((e _).mpr ?_)
  unfold osmosislaw3_FrameTells_J2 at h
  refine ⟨fun hb => ?_, fun hb => ?_⟩
  · have h := cond_t hb h
    obtain ⟨q12, h⟩ := bget hx12 h
    refine ⟨s_osmosishand_Pick (d + 0) q12, ?_⟩
    obtain ⟨q13, h⟩ := bget hx13 h
    refine ⟨wP_slA_h R_B q13, ?_⟩
    try rw [take_row R_B q13]
    try rw [part_row0 R_B q13]
    obtain rfl := Option.some.inj h
    refine ⟨rfl, ?_, ?_⟩ <;> first | rfl | (simp only [roundX, zipKeep, fin_osmosislaw3_FrameTells_J2, List.length_set, List.length_append, List.length_replicate, List.length_cons, List.length_nil, Nat.add_zero, Nat.zero_add]; done) | simp [roundX, zipKeep, fin_osmosislaw3_FrameTells_J2]
  · have h := cond_f hb h
    exact lfe_of h

abbrev in_osmosislaw3_FrameTells_J3 (x29 : List (List UInt8) × Int) (x30 : List (List UInt8) × Int) (x14 : (List UInt8)) (raw : List UInt8) (s27 : Int) : Fast × WH := ([(17, (l_LB x29.1)), (18, (.int .i64 x29.2)), (19, (l_LB x30.1)), (20, (.int .i64 x30.2)), (69, (.agg [(l_B x14), (l_B raw)])), (70, (.int .i64 s27))], [])
def fin_osmosislaw3_FrameTells_J3 (x29 : List (List UInt8) × Int) (x30 : List (List UInt8) × Int) (x14 : (List UInt8)) (raw : List UInt8) (s27 : Int) : Unit ⊕ Unit → Ex × Fast × WH := fun
  | .inl e => (.ret, [(12, (.bool false))], [])
  | .inr e => (.normal, [(17, (l_LB x29.1)), (19, (l_LB x30.1)), (69, (.agg [(l_B x14), (l_B raw)])), (70, (.int .i64 s27))], [])
def osmosislaw3_FrameTells_J3 (x29 : List (List UInt8) × Int) (x30 : List (List UInt8) × Int) (x14 : (List UInt8)) (raw : List UInt8) (s27 : Int) : Option (Unit ⊕ Unit) :=
  cond (x29.2 != x30.2) (some (.inl ())) (cond ((x29.1.length : Int) != (x30.1.length : Int)) (some (.inl ())) (some (.inr ())))
theorem s_osmosislaw3_FrameTells_J3 (d : Nat) {x29 : List (List UInt8) × Int} {x30 : List (List UInt8) × Int} {x14 : (List UInt8)} {raw : List UInt8} {s27 : Int} {r : Unit ⊕ Unit} (h : osmosislaw3_FrameTells_J3 x29 x30 x14 raw s27 = some r) : RunX (bexec (wcalls atab (d + 0)) KK 112 WJ4_bbbbbbabklbbakbbba) 0 (in_osmosislaw3_FrameTells_J3 x29 x30 x14 raw s27) (fin_osmosislaw3_FrameTells_J3 x29 x30 x14 raw s27 r) := by
  have e : ∀ C : ACalls, wCode C (fun _ => none) KK 112 0 WJ4_bbbbbbabklbbakbbba (in_osmosislaw3_FrameTells_J3 x29 x30 x14 raw s27).1 (in_osmosislaw3_FrameTells_J3 x29 x30 x14 raw s27).2 (.br 86 (.en [12] [none] [] []) (.br 92 (.en [12] [none] [] []) (.en [17, 19, 69, 70] [none, none, none, none] [] []))) (fin_osmosislaw3_FrameTells_J3 x29 x30 x14 raw s27 r) = (((x29.2 != x30.2) = true → lfe (fin_osmosislaw3_FrameTells_J3 x29 x30 x14 raw s27) (.inl ()) r) ∧ ((x29.2 != x30.2) = false → ((((x29.1.length : Int) != (x30.1.length : Int)) = true → lfe (fin_osmosislaw3_FrameTells_J3 x29 x30 x14 raw s27) (.inl ()) r) ∧ (((x29.1.length : Int) != (x30.1.length : Int)) = false → lfe (fin_osmosislaw3_FrameTells_J3 x29 x30 x14 raw s27) (.inr ()) r)))) := fun C => by kernel_rfl
  refine runS_of (fun _ _ h => by cases h) WJ4_bbbbbbabklbbakbbba_ok (Nat.le_of_ble_eq_true rfl) ((e _).mpr ?_)
  unfold osmosislaw3_FrameTells_J3 at h
  refine ⟨fun hb => ?_, fun hb => ?_⟩
  · have h := cond_t hb h
    exact lfe_of h
  · have h := cond_f hb h
    refine ⟨fun hb => ?_, fun hb => ?_⟩
    · have h := cond_t hb h
      exact lfe_of h
    · have h := cond_f hb h
      exact lfe_of h

def st_osmosislaw3_FrameTells_L4 (x29 : List (List UInt8) × Int) (x30 : List (List UInt8) × Int) (x14 : (List UInt8)) (raw : List UInt8) (s27 : Int) (s35 : Int) : List AV × WH := ([(l_LB x29.1), (l_LB x30.1), (.agg [(l_B x14), (l_B raw)]), (.int .i64 s27), (.int .i64 (x29.1.length : Int)), (.int .i64 s35)], [])
def fin_osmosislaw3_FrameTells_L4 (x29 : List (List UInt8) × Int) (x30 : List (List UInt8) × Int) (x14 : (List UInt8)) (raw : List UInt8) (s27 : Int) : Unit ⊕ Unit → Ex × Fast × WH := fun
  | .inl e => (.ret, [(12, (.bool false))], [])
  | .inr e => ((.exit 2), [(69, (.agg [(l_B x14), (l_B raw)])), (70, (.int .i64 s27))], [])
abbrev rx_osmosislaw3_FrameTells_L4 (x29 : List (List UInt8) × Int) (x30 : List (List UInt8) × Int) (x14 : (List UInt8)) (raw : List UInt8) (s27 : Int) := roundX [17, 19, 69, 70, 94, 95] (st_osmosislaw3_FrameTells_L4 x29 x30 x14 raw s27) (fin_osmosislaw3_FrameTells_L4 x29 x30 x14 raw s27)
def osmosislaw3_FrameTells_L4_s (x29 : List (List UInt8) × Int) (x30 : List (List UInt8) × Int) (x14 : (List UInt8)) (raw : List UInt8) (s27 : Int) (s35 : Int) : Option ((Int) ⊕ (Unit ⊕ Unit)) :=
  cond (decide (s35 < (x29.1.length : Int))) ((getI x29.1 s35).bind fun (x36 : List UInt8) => (getI x30.1 s35).bind fun (x37 : List UInt8) => cond (!(x36 == x37)) (some (.inr (.inl ()))) (some (.inl (IntKind.i64.wrap (s35 + 1))))) (some (.inr (.inr ())))
def osmosislaw3_FrameTells_L4 (x29 : List (List UInt8) × Int) (x30 : List (List UInt8) × Int) (x14 : (List UInt8)) (raw : List UInt8) (s27 : Int) (s35 : Int) : Option (Unit ⊕ Unit) := loopX (osmosislaw3_FrameTells_L4_s x29 x30 x14 raw s27) KK s35
theorem b_osmosislaw3_FrameTells_L4 (d : Nat) {x29 : List (List UInt8) × Int} {x30 : List (List UInt8) × Int} {x14 : (List UInt8)} {raw : List UInt8} {s27 : Int} {s35 : Int} {r : (Int) ⊕ (Unit ⊕ Unit)} (h : osmosislaw3_FrameTells_L4_s x29 x30 x14 raw s27 s35 = some r) : RunX (bexec (wcalls atab (d + 0)) KK 112 WB4_1) 0 (inL [17, 19, 69, 70, 94, 95] (st_osmosislaw3_FrameTells_L4 x29 x30 x14 raw s27 s35)) (rx_osmosislaw3_FrameTells_L4 x29 x30 x14 raw s27 r) := by
  obtain ⟨x36, hx36⟩ := wx (getI x29.1 s35)
  obtain ⟨x37, hx37⟩ := wx (getI x30.1 s35)
  have e : ∀ C : ACalls, wCode C (fun _ => none) KK 112 0 WB4_1 (inL [17, 19, 69, 70, 94, 95] (st_osmosislaw3_FrameTells_L4 x29 x30 x14 raw s27 s35)).1 (inL [17, 19, 69, 70, 94, 95] (st_osmosislaw3_FrameTells_L4 x29 x30 x14 raw s27 s35)).2 (.br 96 (.v 100 (.elem ([(l_B x36)] ++ F_LB (x29.1.drop (s35.toNat + 1)))) (.v 102 (.str x36) (.v 105 (.elem ([(l_B x37)] ++ F_LB (x30.1.drop (s35.toNat + 1)))) (.v 107 (.str x37) (.br 108 (.en [12] [none] [] []) (.en [17, 19, 69, 70, 94, 95] [none, none, none, none, none, none] [] [])))))) (.en [69, 70] [none, none] [] [])) (rx_osmosislaw3_FrameTells_L4 x29 x30 x14 raw s27 r) = (((decide (s35 < (x29.1.length : Int))) = true → (wP (.idxSlice 1 (.c (l_LB x29.1)) (.c (.int .i64 s35))) = some (.elem ([(l_B x36)] ++ F_LB (x29.1.drop (s35.toNat + 1)))) ∧ ((toBytes (F_B x36)).map AV.str = some (.str x36) ∧ (wP (.idxSlice 1 (.c (l_LB x30.1)) (.c (.int .i64 s35))) = some (.elem ([(l_B x37)] ++ F_LB (x30.1.drop (s35.toNat + 1)))) ∧ ((toBytes (F_B x37)).map AV.str = some (.str x37) ∧ (((!(x36 == x37)) = true → lfe (rx_osmosislaw3_FrameTells_L4 x29 x30 x14 raw s27) (.inr (.inl ())) r) ∧ ((!(x36 == x37)) = false → lfe (rx_osmosislaw3_FrameTells_L4 x29 x30 x14 raw s27) (.inl (IntKind.i64.wrap (s35 + 1))) r))))))) ∧ ((decide (s35 < (x29.1.length : Int))) = false → lfe (rx_osmosislaw3_FrameTells_L4 x29 x30 x14 raw s27) (.inr (.inr ())) r)) := fun C => by kernel_rfl
  refine runS_of (fun _ _ h => by cases h) WB4_1_ok (Nat.le_of_ble_eq_true rfl) ((e _).mpr ?_)
  unfold osmosislaw3_FrameTells_L4_s at h
  refine ⟨fun hb => ?_, fun hb => ?_⟩
  · have h := cond_t hb h
    obtain ⟨q36, h⟩ := bget hx36 h
    refine ⟨wP_idx R_LB q36, ?_⟩
    refine ⟨by rw [show F_B x36 = (x36).map byteC from rfl, toBytes_map]; rfl, ?_⟩
    obtain ⟨q37, h⟩ := bget hx37 h
    refine ⟨wP_idx R_LB q37, ?_⟩
    refine ⟨by rw [show F_B x37 = (x37).map byteC from rfl, toBytes_map]; rfl, ?_⟩
    refine ⟨fun hb => ?_, fun hb => ?_⟩
    · have h := cond_t hb h
      exact lfe_of h
    · have h := cond_f hb h
      exact lfe_of h
  · have h := cond_f hb h
    exact lfe_of h
theorem s_osmosislaw3_FrameTells_L4 (d : Nat) {x29 : List (List UInt8) × Int} {x30 : List (List UInt8) × Int} {x14 : (List UInt8)} {raw : List UInt8} {s27 : Int} {s35 : Int} {r : Unit ⊕ Unit} (h : osmosislaw3_FrameTells_L4 x29 x30 x14 raw s27 s35 = some r) : RunX (bloop (bexec (wcalls atab (d + 0)) KK 112 WB4_1) [17, 19, 69, 70, 94, 95] KK) 0 (inL [17, 19, 69, 70, 94, 95] (st_osmosislaw3_FrameTells_L4 x29 x30 x14 raw s27 s35)) (fin_osmosislaw3_FrameTells_L4 x29 x30 x14 raw s27 r) :=
  loop_of (st := st_osmosislaw3_FrameTells_L4 x29 x30 x14 raw s27) (fin := fin_osmosislaw3_FrameTells_L4 x29 x30 x14 raw s27) (step := osmosislaw3_FrameTells_L4_s x29 x30 x14 raw s27) (fun e => by rcases e with e | e <;> (intro h; cases h)) (fun s x h => b_osmosislaw3_FrameTells_L4 d h) KK s35 r h

def st_osmosislaw3_FrameTells_L5 (x14 : (List UInt8)) (raw : List UInt8) (s27 : Int) : List AV × WH := ([(.agg [(l_B x14), (l_B raw)]), (.int .i64 s27)], [])
def fin_osmosislaw3_FrameTells_L5 (x14 : (List UInt8)) (raw : List UInt8) : Unit ⊕ Unit → Ex × Fast × WH := fun
  | .inl e => (.ret, [(12, (.bool false))], [])
  | .inr e => ((.exit 0), [], [])
abbrev rx_osmosislaw3_FrameTells_L5 (x14 : (List UInt8)) (raw : List UInt8) := roundX [69, 70] (st_osmosislaw3_FrameTells_L5 x14 raw) (fin_osmosislaw3_FrameTells_L5 x14 raw)
def osmosislaw3_FrameTells_L5_s (x14 : (List UInt8)) (raw : List UInt8) (s27 : Int) : Option ((Int) ⊕ (Unit ⊕ Unit)) :=
  cond (decide (s27 < 2)) ((getI ([x14, raw] : List (List UInt8)) s27).bind fun (x28 : List UInt8) => (frame_Read x28).bind fun (x29 : List (List UInt8) × Int) => (osmosisref1_Frames x28).bind fun (x30 : List (List UInt8) × Int) => (osmosislaw3_FrameTells_J3 x29 x30 x14 raw s27).bind fun (x31 : Unit ⊕ Unit) => cond (isL x31) (some (.inr (.inl ()))) ((osmosislaw3_FrameTells_L4 x29 x30 x14 raw s27 0).bind fun (x38 : Unit ⊕ Unit) => cond (isL x38) (some (.inr (.inl ()))) (some (.inl (IntKind.i64.wrap (s27 + 1)))))) (some (.inr (.inr ())))
def osmosislaw3_FrameTells_L5 (x14 : (List UInt8)) (raw : List UInt8) (s27 : Int) : Option (Unit ⊕ Unit) := loopX (osmosislaw3_FrameTells_L5_s x14 raw) KK s27
theorem b_osmosislaw3_FrameTells_L5 (d : Nat) {x14 : (List UInt8)} {raw : List UInt8} {s27 : Int} {r : (Int) ⊕ (Unit ⊕ Unit)} (h : osmosislaw3_FrameTells_L5_s x14 raw s27 = some r) : RunX (bexec (wcalls atab (d + 6)) KK 112 WB4_0) 0 (inL [69, 70] (st_osmosislaw3_FrameTells_L5 x14 raw s27)) (rx_osmosislaw3_FrameTells_L5 x14 raw r) := by
  obtain ⟨x28, hx28⟩ := wx (getI ([x14, raw] : List (List UInt8)) s27)
  obtain ⟨x29, hx29⟩ := wx (frame_Read x28)
  obtain ⟨x30, hx30⟩ := wx (osmosisref1_Frames x28)
  obtain ⟨x31, hx31⟩ := wx (osmosislaw3_FrameTells_J3 x29 x30 x14 raw s27)
  obtain ⟨x38, hx38⟩ := wx (osmosislaw3_FrameTells_L4 x29 x30 x14 raw s27 0)
  have e : ∀ C : ACalls, wCode C (fun _ => none) KK 112 0 WB4_0 (inL [69, 70] (st_osmosislaw3_FrameTells_L5 x14 raw s27)).1 (inL [69, 70] (st_osmosislaw3_FrameTells_L5 x14 raw s27)).2 (.br 71 (.v 72 (l_B x28) (.call [] (some false) [] (.tuple [(l_LB x29.1), (.int .i64 x29.2)]) [] (.call [] (some false) [] (.tuple [(l_LB x30.1), (.int .i64 x30.2)]) [] (.ite (isL x31) (.jn [17, 18, 19, 20, 69, 70] [none, none, none, none, none, none] [] [] .ret [(12, (.bool false))] [] (.en [12] [none] [] [])) (.jn [17, 18, 19, 20, 69, 70] [none, none, none, none, none, none] [] [] .normal [(17, (l_LB x29.1)), (19, (l_LB x30.1)), (69, (.agg [(l_B x14), (l_B raw)])), (70, (.int .i64 s27))] [] (.ite (isL x38) (.lp [none, none, none, none, none, none] [] [] .ret [(12, (.bool false))] [] (.en [12] [none] [] [])) (.lp [none, none, none, none, none, none] [] [] (.exit 2) [(69, (.agg [(l_B x14), (l_B raw)])), (70, (.int .i64 s27))] [] (.en [69, 70] [none, none] [] [])))))))) (.en [] [] [] [])) (rx_osmosislaw3_FrameTells_L5 x14 raw r) = (((decide (s27 < 2)) = true → (wP (.index false 2 1 (.c (.agg [(l_B x14), (l_B raw)])) (.c (.int .i64 s27))) = some (l_B x28) ∧ (Spec C 24 [(l_B x28)] [] (.tuple [(l_LB x29.1), (.int .i64 x29.2)]) [] ∧ (0 ≤ 0 ∧ (Spec C 29 [(l_B x28)] [] (.tuple [(l_LB x30.1), (.int .i64 x30.2)]) [] ∧ (0 ≤ 0 ∧ (((isL x31) = true → (RunS (bexec C KK 112 WJ4_bbbbbbabklbbakbbba) 0 [(17, (l_LB x29.1)), (18, (.int .i64 x29.2)), (19, (l_LB x30.1)), (20, (.int .i64 x30.2)), (69, (.agg [(l_B x14), (l_B raw)])), (70, (.int .i64 s27))] [] .ret [(12, (.bool false))] [] ∧ lfe (rx_osmosislaw3_FrameTells_L5 x14 raw) (.inr (.inl ())) r)) ∧ ((isL x31) = false → (RunS (bexec C KK 112 WJ4_bbbbbbabklbbakbbba) 0 [(17, (l_LB x29.1)), (18, (.int .i64 x29.2)), (19, (l_LB x30.1)), (20, (.int .i64 x30.2)), (69, (.agg [(l_B x14), (l_B raw)])), (70, (.int .i64 s27))] [] .normal [(17, (l_LB x29.1)), (19, (l_LB x30.1)), (69, (.agg [(l_B x14), (l_B raw)])), (70, (.int .i64 s27))] [] ∧ (((isL x38) = true → (RunS (bloop (bexec C KK 112 WB4_1) [17, 19, 69, 70, 94, 95] KK) 0 [(17, (l_LB x29.1)), (19, (l_LB x30.1)), (69, (.agg [(l_B x14), (l_B raw)])), (70, (.int .i64 s27)), (94, (.int .i64 (x29.1.length : Int))), (95, (.int .i64 0))] [] .ret [(12, (.bool false))] [] ∧ lfe (rx_osmosislaw3_FrameTells_L5 x14 raw) (.inr (.inl ())) r)) ∧ ((isL x38) = false → (RunS (bloop (bexec C KK 112 WB4_1) [17, 19, 69, 70, 94, 95] KK) 0 [(17, (l_LB x29.1)), (19, (l_LB x30.1)), (69, (.agg [(l_B x14), (l_B raw)])), (70, (.int .i64 s27)), (94, (.int .i64 (x29.1.length : Int))), (95, (.int .i64 0))] [] (.exit 2) [(69, (.agg [(l_B x14), (l_B raw)])), (70, (.int .i64 s27))] [] ∧ lfe (rx_osmosislaw3_FrameTells_L5 x14 raw) (.inl (IntKind.i64.wrap (s27 + 1))) r)))))))))))) ∧ ((decide (s27 < 2)) = false → lfe (rx_osmosislaw3_FrameTells_L5 x14 raw) (.inr (.inr ())) r)) := fun C => by kernel_rfl
  refine runS_of (fun _ _ h => by cases h) WB4_0_ok (Nat.le_of_ble_eq_true rfl) ((e _).mpr ?_)
  unfold osmosislaw3_FrameTells_L5_s at h
  refine ⟨fun hb => ?_, fun hb => ?_⟩
  · have h := cond_t hb h
    obtain ⟨q28, h⟩ := bget hx28 h
    refine ⟨wP_ix R_LB q28, ?_⟩
    obtain ⟨q29, h⟩ := bget hx29 h
    refine ⟨s_frame_Read (d + 0) q29, ?_⟩
    refine ⟨by decide, ?_⟩
    obtain ⟨q30, h⟩ := bget hx30 h
    refine ⟨s_osmosisref1_Frames (d + 3) q30, ?_⟩
    refine ⟨by decide, ?_⟩
    obtain ⟨q31, h⟩ := bget hx31 h
    refine ⟨fun hb32 => ?_, fun hb32 => ?_⟩
    · have h := cond_t hb32 h
      refine ⟨by have h := s_osmosislaw3_FrameTells_J3 (d + 6) q31; rw [isL_t hb32] at h; exact h, ?_⟩
      exact lfe_of h
    · have h := cond_f hb32 h
      refine ⟨by have h := s_osmosislaw3_FrameTells_J3 (d + 6) q31; rw [isL_f hb32] at h; exact h, ?_⟩
      obtain ⟨q38, h⟩ := bget hx38 h
      refine ⟨fun hb39 => ?_, fun hb39 => ?_⟩
      · have h := cond_t hb39 h
        refine ⟨by have h := s_osmosislaw3_FrameTells_L4 (d + 6) q38; rw [isL_t hb39] at h; exact h, ?_⟩
        exact lfe_of h
      · have h := cond_f hb39 h
        refine ⟨by have h := s_osmosislaw3_FrameTells_L4 (d + 6) q38; rw [isL_f hb39] at h; exact h, ?_⟩
        exact lfe_of h
  · have h := cond_f hb h
    exact lfe_of h
theorem s_osmosislaw3_FrameTells_L5 (d : Nat) {x14 : (List UInt8)} {raw : List UInt8} {s27 : Int} {r : Unit ⊕ Unit} (h : osmosislaw3_FrameTells_L5 x14 raw s27 = some r) : RunX (bloop (bexec (wcalls atab (d + 6)) KK 112 WB4_0) [69, 70] KK) 0 (inL [69, 70] (st_osmosislaw3_FrameTells_L5 x14 raw s27)) (fin_osmosislaw3_FrameTells_L5 x14 raw r) :=
  loop_of (st := st_osmosislaw3_FrameTells_L5 x14 raw) (fin := fin_osmosislaw3_FrameTells_L5 x14 raw) (step := osmosislaw3_FrameTells_L5_s x14 raw) (fun e => by rcases e with e | e <;> (intro h; cases h)) (fun s x h => b_osmosislaw3_FrameTells_L5 d h) KK s27 r h

def osmosislaw3_FrameTells (p_b : List UInt8) (l : List (List UInt8)) (raw : List UInt8) (p_at : Int) (p_with : UInt8) (cut : Int) : Option (Bool) :=
  (osmosislaw3_some l).bind fun (x1 : List (List UInt8)) => (frame_Lay p_b x1).bind fun (x2 : List UInt8) => (osmosislaw3_some l).bind fun (x3 : List (List UInt8)) => (osmosisref1_Frame p_b x3).bind fun (x4 : List UInt8) => cond (!(x2 == x4)) (some false) ((osmosislaw3_some l).bind fun (x5 : List (List UInt8)) => (osmosisref1_Frame_2 x5 []).bind fun (x6 : List UInt8) => (osmosislaw3_FrameTells_J1 x6 p_at raw p_with cut).bind fun (x11 : (List UInt8)) => (osmosislaw3_FrameTells_J2 cut x11 raw).bind fun (x14 : (List UInt8)) => (osmosislaw3_FrameTells_L5 x14 raw 0).bind fun (x40 : Unit ⊕ Unit) => cond (isL x40) (some false) ((osmosislaw3_known).bind fun (x42 : Bool) => some x42))
def out_osmosislaw3_FrameTells (p_b : List UInt8) (l : List (List UInt8)) (raw : List UInt8) (p_at : Int) (p_with : UInt8) (cut : Int) (r : Bool) : AV × WH := ((.bool r), [])

theorem s_osmosislaw3_FrameTells (d : Nat) {p_b : List UInt8} {l : List (List UInt8)} {raw : List UInt8} {p_at : Int} {p_with : UInt8} {cut : Int} {r : Bool} (h : osmosislaw3_FrameTells p_b l raw p_at p_with cut = some r) : Spec (wcalls atab (d + 8)) 4 [(l_B p_b), (l_LB l), (l_B raw), (.int .i64 p_at), (.int .u8 (p_with.toNat : Int)), (.int .i64 cut)] [] (out_osmosislaw3_FrameTells p_b l raw p_at p_with cut r).1 (out_osmosislaw3_FrameTells p_b l raw p_at p_with cut r).2 := by
  obtain ⟨x1, hx1⟩ := wx (osmosislaw3_some l)
  obtain ⟨x2, hx2⟩ := wx (frame_Lay p_b x1)
  obtain ⟨x3, hx3⟩ := wx (osmosislaw3_some l)
  obtain ⟨x4, hx4⟩ := wx (osmosisref1_Frame p_b x3)
  obtain ⟨x5, hx5⟩ := wx (osmosislaw3_some l)
  obtain ⟨x6, hx6⟩ := wx (osmosisref1_Frame_2 x5 [])
  obtain ⟨x11, hx11⟩ := wx (osmosislaw3_FrameTells_J1 x6 p_at raw p_with cut)
  obtain ⟨x14, hx14⟩ := wx (osmosislaw3_FrameTells_J2 cut x11 raw)
  obtain ⟨x40, hx40⟩ := wx (osmosislaw3_FrameTells_L5 x14 raw 0)
  obtain ⟨x42, hx42⟩ := wx (osmosislaw3_known)
  have e : ∀ C : ACalls, wBody C (fun _ => none) KK WF4 [(l_B p_b), (l_LB l), (l_B raw), (.int .i64 p_at), (.int .u8 (p_with.toNat : Int)), (.int .i64 cut)] [] (.call [] (some false) [] (l_LB x1) [] (.call [] (some false) [] (l_B x2) [] (.call [] (some false) [] (l_LB x3) [] (.call [] (some false) [] (l_B x4) [] (.v 27 (.str x2) (.v 32 (.str x4) (.br 33 (.fin (some false) [] none) (.call [] (some false) [] (l_LB x5) [] (.call [(some true), (some false)] none [] (.acc 1 0 1 x6.length true) [(some (.cells (F_B []) false true)), (some (.cells (F_B x6) false true))] (.jn [2, 3, 4, 5, 14] [none, none, none, none, none] [] [] .normal [(2, (l_B raw)), (5, (.int .i64 cut)), (14, (.acc 0 0 1 x11.length true))] [(some (.cells (F_B x11) false true))] (.jn [2, 5, 14] [none, none, none] [] [] .normal [(2, (l_B raw)), (14, (l_B x14))] [] (.ite (isL x40) (.lp [none, none] [] [] .ret [(12, (.bool false))] [] (.fin (some false) [] none)) (.lp [none, none] [] [] (.exit 0) [] [] (.cb [] [] (.bool x42) (.fin (some false) [] none))))))))))))))) (out_osmosislaw3_FrameTells p_b l raw p_at p_with cut r).1 (out_osmosislaw3_FrameTells p_b l raw p_at p_with cut r).2 = (6 = 6 ∧ 6 ≤ 112 ∧ (Spec C 26 [(l_LB l)] [] (l_LB x1) [] ∧ (0 ≤ 0 ∧ (Spec C 23 [(l_B p_b), (l_LB x1)] [] (l_B x2) [] ∧ (0 ≤ 0 ∧ (Spec C 26 [(l_LB l)] [] (l_LB x3) [] ∧ (0 ≤ 0 ∧ (Spec C 27 [(l_B p_b), (l_LB x3)] [] (l_B x4) [] ∧ (0 ≤ 0 ∧ ((toBytes (F_B x2)).map AV.str = some (.str x2) ∧ ((toBytes (F_B x4)).map AV.str = some (.str x4) ∧ (((!(x2 == x4)) = true → lff (out_osmosislaw3_FrameTells p_b l raw p_at p_with cut) false r) ∧ ((!(x2 == x4)) = false → (Spec C 26 [(l_LB l)] [] (l_LB x5) [] ∧ (0 ≤ 0 ∧ (Spec C 27 [(.acc 0 0 1 0 true), (l_LB x5)] [(some (.cells (F_B []) false true))] (.acc 1 0 1 x6.length true) [(some (.cells (F_B []) false true)), (some (.cells (F_B x6) false true))] ∧ (1 ≤ 2 ∧ (RunS (bexec C KK 112 WJ4_bbbba) 0 [(2, (l_B raw)), (3, (.int .i64 p_at)), (4, (.int .u8 (p_with.toNat : Int))), (5, (.int .i64 cut)), (14, (.acc 0 0 1 x6.length true))] [(some (.cells (F_B x6) false true))] .normal [(2, (l_B raw)), (5, (.int .i64 cut)), (14, (.acc 0 0 1 x11.length true))] [(some (.cells (F_B x11) false true))] ∧ (RunS (bexec C KK 112 WJ4_bbbbba) 0 [(2, (l_B raw)), (5, (.int .i64 cut)), (14, (.acc 0 0 1 x11.length true))] [(some (.cells (F_B x11) false true))] .normal [(2, (l_B raw)), (14, (l_B x14))] [] ∧ (((isL x40) = true → (RunS (bloop (bexec C KK 112 WB4_0) [69, 70] KK) 0 [(69, (.agg [(l_B x14), (l_B raw)])), (70, (.int .i64 0))] [] .ret [(12, (.bool false))] [] ∧ lff (out_osmosislaw3_FrameTells p_b l raw p_at p_with cut) false r)) ∧ ((isL x40) = false → (RunS (bloop (bexec C KK 112 WB4_0) [69, 70] KK) 0 [(69, (.agg [(l_B x14), (l_B raw)])), (70, (.int .i64 0))] [] (.exit 0) [] [] ∧ (Spec C 25 [] [] (.bool x42) [] ∧ lff (out_osmosislaw3_FrameTells p_b l raw p_at p_with cut) x42 r))))))))))))))))))))))) := fun C => by kernel_rfl
  refine spec_of (fun _ _ h => by cases h) rfl atab_4 WF4_ok ((e _).mpr ⟨rfl, by decide, ?_⟩)
  unfold osmosislaw3_FrameTells at h
  obtain ⟨q1, h⟩ := bget hx1 h
  refine ⟨s_osmosislaw3_some (d + 5) q1, ?_⟩
  refine ⟨by decide, ?_⟩
  obtain ⟨q2, h⟩ := bget hx2 h
  refine ⟨s_frame_Lay (d + 4) q2, ?_⟩
  refine ⟨by decide, ?_⟩
  obtain ⟨q3, h⟩ := bget hx3 h
  refine ⟨s_osmosislaw3_some (d + 5) q3, ?_⟩
  refine ⟨by decide, ?_⟩
  obtain ⟨q4, h⟩ := bget hx4 h
  refine ⟨s_osmosisref1_Frame (d + 4) q4, ?_⟩
  refine ⟨by decide, ?_⟩
  refine ⟨by rw [show F_B x2 = (x2).map byteC from rfl, toBytes_map]; rfl, ?_⟩
  refine ⟨by rw [show F_B x4 = (x4).map byteC from rfl, toBytes_map]; rfl, ?_⟩
  refine ⟨fun hb => ?_, fun hb => ?_⟩
  · have h := cond_t hb h
    exact lff_of h
  · have h := cond_f hb h
    obtain ⟨q5, h⟩ := bget hx5 h
    refine ⟨s_osmosislaw3_some (d + 5) q5, ?_⟩
    refine ⟨by decide, ?_⟩
    obtain ⟨q6, h⟩ := bget hx6 h
    refine ⟨s_osmosisref1_Frame_2 (d + 4) q6, ?_⟩
    refine ⟨by decide, ?_⟩
    obtain ⟨q11, h⟩ := bget hx11 h
    refine ⟨s_osmosislaw3_FrameTells_J1 (d + 6) q11, ?_⟩
    obtain ⟨q14, h⟩ := bget hx14 h
    refine ⟨s_osmosislaw3_FrameTells_J2 (d + 6) q14, ?_⟩
    obtain ⟨q40, h⟩ := bget hx40 h
    refine ⟨fun hb41 => ?_, fun hb41 => ?_⟩
    · have h := cond_t hb41 h
      refine ⟨by have h := s_osmosislaw3_FrameTells_L5 (d + 1) q40; rw [isL_t hb41] at h; exact h, ?_⟩
      exact lff_of h
    · have h := cond_f hb41 h
      refine ⟨by have h := s_osmosislaw3_FrameTells_L5 (d + 1) q40; rw [isL_f hb41] at h; exact h, ?_⟩
      obtain ⟨q42, h⟩ := bget hx42 h
      refine ⟨s_osmosislaw3_known (d + 0) q42, ?_⟩
      exact lff_of h

end Go.Proofs.Ytachollgbplikaa
