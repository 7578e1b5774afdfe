/- Functions as Lean functions, part 1. -/
import Derived.Test.YtachollgbplikaaXt
import Derived.Test.YtachollgbplikaaXs
set_option linter.all false
set_option maxRecDepth 100000
namespace Go.Proofs.Ytachollgbplikaa
/- osmosis/nums.Put -/
abbrev in_nums_Put_J0 (x11 : Int) (s10 : Int × List UInt8) (n : List Int) : Fast × WH := ([(5, (.acc 0 0 1 s10.2.length true)), (7, (.int .i64 x11)), (10, (l_I n)), (11, (.int .i64 (n.length : Int))), (12, (.int .i64 s10.1))], [(some (.cells (F_B s10.2) false true))])
def fin_nums_Put_J0 (x11 : Int) (s10 : Int × List UInt8) (n : List Int) : Unit ⊕ Unit → Ex × Fast × WH := fun
  | .inl e => (.ret, [(4, (.slice none 1 0 0 true))], [])
  | .inr e => (.normal, [(5, (.acc 0 0 1 s10.2.length true)), (7, (.int .i64 x11)), (10, (l_I n)), (11, (.int .i64 (n.length : Int))), (12, (.int .i64 s10.1))], [(some (.cells (F_B s10.2) false true))])
def nums_Put_J0 (x11 : Int) (s10 : Int × List UInt8) (n : List Int) : Option (Unit ⊕ Unit) :=
  cond (decide (x11 < 0)) (some (.inl ())) (cond (decide (x11 > 4611686018427387903)) (some (.inl ())) (some (.inr ())))
theorem s_nums_Put_J0 (d : Nat) {x11 : Int} {s10 : Int × List UInt8} {n : List Int} {r : Unit ⊕ Unit} (h : nums_Put_J0 x11 s10 n = some r) : RunX (bexec (wcalls atab (d + 0)) KK 41 WJ82_bbabklbbakba) 0 (in_nums_Put_J0 x11 s10 n) (fin_nums_Put_J0 x11 s10 n r) := by
  have e : ∀ C : ACalls, wCode C (fun _ => none) KK 41 0 WJ82_bbabklbbakba (in_nums_Put_J0 x11 s10 n).1 (in_nums_Put_J0 x11 s10 n).2 (.br 18 (.en [4] [none] [] []) (.br 21 (.en [4] [none] [] []) (.en [5, 7, 10, 11, 12] [none, none, none, none, none] [] []))) (fin_nums_Put_J0 x11 s10 n r) = (((decide (x11 < 0)) = true → lfe (fin_nums_Put_J0 x11 s10 n) (.inl ()) r) ∧ ((decide (x11 < 0)) = false → (((decide (x11 > 4611686018427387903)) = true → lfe (fin_nums_Put_J0 x11 s10 n) (.inl ()) r) ∧ ((decide (x11 > 4611686018427387903)) = false → lfe (fin_nums_Put_J0 x11 s10 n) (.inr ()) r)))) := fun C => by kernel_rfl
  refine runS_of (fun _ _ h => by cases h) WJ82_bbabklbbakba_ok (Nat.le_of_ble_eq_true rfl) ((e _).mpr ?_)
  unfold nums_Put_J0 at h
  refine ⟨fun hb => ?_, fun hb => ?_⟩
  · have h := cond_t hb h
    exact lfe_of h
  · have h := cond_f hb h
    refine ⟨fun hb => ?_, fun hb => ?_⟩
    · have h := cond_t hb h
      exact lfe_of h
    · have h := cond_f hb h
      exact lfe_of h

def st_nums_Put_L1 (n : List Int) (s10 : Int × List UInt8) (s15 : Int × List UInt8) : List AV × WH := ([(.acc 0 0 1 s15.2.length true), (.int .i64 s15.1), (l_I n), (.int .i64 (n.length : Int)), (.int .i64 s10.1)], [(some (.cells (F_B s15.2) false true))])
def fin_nums_Put_L1 (n : List Int) (s10 : Int × List UInt8) : (Int × List UInt8) → Ex × Fast × WH := fun e => ((.exit 2), [(5, (.acc 0 0 1 e.2.length true)), (7, (.int .i64 e.1)), (10, (l_I n)), (11, (.int .i64 (n.length : Int))), (12, (.int .i64 s10.1))], [(some (.cells (F_B e.2) false true))])
abbrev rx_nums_Put_L1 (n : List Int) (s10 : Int × List UInt8) := roundX [5, 7, 10, 11, 12] (st_nums_Put_L1 n s10) (fin_nums_Put_L1 n s10)
def nums_Put_L1_s (n : List Int) (s10 : Int × List UInt8) (s15 : Int × List UInt8) : Option ((Int × List UInt8) ⊕ ((Int × List UInt8))) :=
  cond (decide (s15.1 > 127)) (gd (fitsB 1 (s15.2 ++ [(u8w (orI .i64 (andI .i64 s15.1 127) 128))]).length) (some (.inl ((shrV .i64 s15.1 7), (s15.2 ++ [(u8w (orI .i64 (andI .i64 s15.1 127) 128))]))))) (some (.inr (s15.1, s15.2)))
def nums_Put_L1 (n : List Int) (s10 : Int × List UInt8) (s15 : Int × List UInt8) : Option ((Int × List UInt8)) := loopX (nums_Put_L1_s n s10) KK s15
theorem b_nums_Put_L1 (d : Nat) {n : List Int} {s10 : Int × List UInt8} {s15 : Int × List UInt8} {r : (Int × List UInt8) ⊕ ((Int × List UInt8))} (h : nums_Put_L1_s n s10 s15 = some r) : RunX (bexec (wcalls atab (d + 0)) KK 41 WB82_1) 0 (inL [5, 7, 10, 11, 12] (st_nums_Put_L1 n s10 s15)) (rx_nums_Put_L1 n s10 r) := by
  have e : ∀ C : ACalls, wCode C (fun _ => none) KK 41 0 WB82_1 (inL [5, 7, 10, 11, 12] (st_nums_Put_L1 n s10 s15)).1 (inL [5, 7, 10, 11, 12] (st_nums_Put_L1 n s10 s15)).2 (.br 23 (.v 28 (.int .u8 ((u8w (orI .i64 (andI .i64 s15.1 127) 128)).toNat : Int)) (.ap 30 (s15.2 ++ [(u8w (orI .i64 (andI .i64 s15.1 127) 128))]).length (F_B (s15.2 ++ [(u8w (orI .i64 (andI .i64 s15.1 127) 128))])) (.en [5, 7, 10, 11, 12] [none, none, none, none, none] [] []))) (.en [5, 7, 10, 11, 12] [none, none, none, none, none] [] [])) (rx_nums_Put_L1 n s10 r) = (((decide (s15.1 > 127)) = true → (@Eq (Option AV) (some (.int .u8 (IntKind.u8.wrap (orI .i64 (andI .i64 s15.1 127) 128)))) (some (.int .u8 ((u8w (orI .i64 (andI .i64 s15.1 127) 128)).toNat : Int))) ∧ (s15.2.length + 1 = (s15.2 ++ [(u8w (orI .i64 (andI .i64 s15.1 127) 128))]).length ∧ (F_B s15.2 ++ F_B ([(u8w (orI .i64 (andI .i64 s15.1 127) 128))]) = F_B (s15.2 ++ [(u8w (orI .i64 (andI .i64 s15.1 127) 128))]) ∧ (fitsB 1 (s15.2 ++ [(u8w (orI .i64 (andI .i64 s15.1 127) 128))]).length = true ∧ lfe (rx_nums_Put_L1 n s10) (.inl ((shrV .i64 s15.1 7), (s15.2 ++ [(u8w (orI .i64 (andI .i64 s15.1 127) 128))]))) r))))) ∧ ((decide (s15.1 > 127)) = false → lfe (rx_nums_Put_L1 n s10) (.inr (s15.1, s15.2)) r)) := fun C => by kernel_rfl
  refine runS_of (fun _ _ h => by cases h) WB82_1_ok (Nat.le_of_ble_eq_true rfl) ((e _).mpr ?_)
  unfold nums_Put_L1_s at h
  refine ⟨fun hb => ?_, fun hb => ?_⟩
  · have h := cond_t hb h
    refine ⟨u8_w _, ?_⟩
    obtain ⟨q16, h⟩ := gd_some h
    refine ⟨by simp, ?_⟩
    refine ⟨(Row.app R_B _ _).symm, ?_⟩
    refine ⟨q16, ?_⟩
    exact lfe_of h
  · have h := cond_f hb h
    exact lfe_of h
theorem s_nums_Put_L1 (d : Nat) {n : List Int} {s10 : Int × List UInt8} {s15 : Int × List UInt8} {r : (Int × List UInt8)} (h : nums_Put_L1 n s10 s15 = some r) : RunX (bloop (bexec (wcalls atab (d + 0)) KK 41 WB82_1) [5, 7, 10, 11, 12] KK) 0 (inL [5, 7, 10, 11, 12] (st_nums_Put_L1 n s10 s15)) (fin_nums_Put_L1 n s10 r) :=
  loop_of (st := st_nums_Put_L1 n s10) (fin := fin_nums_Put_L1 n s10) (step := nums_Put_L1_s n s10) (fun e => by (intro h; cases h)) (fun s x h => b_nums_Put_L1 d h) KK s15 r h

def st_nums_Put_L2 (n : List Int) (s10 : Int × List UInt8) : List AV × WH := ([(.acc 0 0 1 s10.2.length true), (l_I n), (.int .i64 (n.length : Int)), (.int .i64 s10.1)], [(some (.cells (F_B s10.2) false true))])
def fin_nums_Put_L2 (n : List Int) : Unit ⊕ (List UInt8) → Ex × Fast × WH := fun
  | .inl e => (.ret, [(4, (.slice none 1 0 0 true))], [])
  | .inr e => ((.exit 0), [(5, (.acc 0 0 1 e.length true))], [(some (.cells (F_B e) false true))])
abbrev rx_nums_Put_L2 (n : List Int) := roundX [5, 10, 11, 12] (st_nums_Put_L2 n) (fin_nums_Put_L2 n)
def nums_Put_L2_s (n : List Int) (s10 : Int × List UInt8) : Option ((Int × List UInt8) ⊕ (Unit ⊕ (List UInt8))) :=
  cond (decide (s10.1 < (n.length : Int))) ((getI n s10.1).bind fun (x11 : Int) => (nums_Put_J0 x11 s10 n).bind fun (x12 : Unit ⊕ Unit) => cond (isL x12) (some (.inr (.inl ()))) ((nums_Put_L1 n s10 (x11, s10.2)).bind fun (x17 : (Int × List UInt8)) => gd (fitsB 1 (x17.2 ++ [(u8w x17.1)]).length) (some (.inl ((IntKind.i64.wrap (s10.1 + 1)), (x17.2 ++ [(u8w x17.1)])))))) (some (.inr (.inr s10.2)))
def nums_Put_L2 (n : List Int) (s10 : Int × List UInt8) : Option (Unit ⊕ (List UInt8)) := loopX (nums_Put_L2_s n) KK s10
theorem b_nums_Put_L2 (d : Nat) {n : List Int} {s10 : Int × List UInt8} {r : (Int × List UInt8) ⊕ (Unit ⊕ (List UInt8))} (h : nums_Put_L2_s n s10 = some r) : RunX (bexec (wcalls atab (d + 0)) KK 41 WB82_0) 0 (inL [5, 10, 11, 12] (st_nums_Put_L2 n s10)) (rx_nums_Put_L2 n r) := by
  obtain ⟨x11, hx11⟩ := wx (getI n s10.1)
  obtain ⟨x12, hx12⟩ := wx (nums_Put_J0 x11 s10 n)
  obtain ⟨x17, hx17⟩ := wx (nums_Put_L1 n s10 (x11, s10.2))
  have e : ∀ C : ACalls, wCode C (fun _ => none) KK 41 0 WB82_0 (inL [5, 10, 11, 12] (st_nums_Put_L2 n s10)).1 (inL [5, 10, 11, 12] (st_nums_Put_L2 n s10)).2 (.br 13 (.v 14 (.elem ([(.int .i64 x11)] ++ F_I (n.drop (s10.1.toNat + 1)))) (.ite (isL x12) (.jn [5, 7, 10, 11, 12] [none, none, none, none, none] [] [] .ret [(4, (.slice none 1 0 0 true))] [] (.en [4] [none] [] [])) (.jn [5, 7, 10, 11, 12] [none, none, none, none, none] [] [] .normal [(5, (.acc 0 0 1 s10.2.length true)), (7, (.int .i64 x11)), (10, (l_I n)), (11, (.int .i64 (n.length : Int))), (12, (.int .i64 s10.1))] [(some (.cells (F_B s10.2) false true))] (.lp [none, none, none, none, none] [] [] (.exit 2) [(5, (.acc 0 0 1 x17.2.length true)), (7, (.int .i64 x17.1)), (10, (l_I n)), (11, (.int .i64 (n.length : Int))), (12, (.int .i64 s10.1))] [(some (.cells (F_B x17.2) false true))] (.v 35 (.int .u8 ((u8w x17.1).toNat : Int)) (.ap 37 (x17.2 ++ [(u8w x17.1)]).length (F_B (x17.2 ++ [(u8w x17.1)])) (.en [5, 10, 11, 12] [none, none, none, none] [] []))))))) (.en [5] [none] [] [])) (rx_nums_Put_L2 n r) = (((decide (s10.1 < (n.length : Int))) = true → (wP (.idxSlice 1 (.c (l_I n)) (.c (.int .i64 s10.1))) = some (.elem ([(.int .i64 x11)] ++ F_I (n.drop (s10.1.toNat + 1)))) ∧ (((isL x12) = true → (RunS (bexec C KK 41 WJ82_bbabklbbakba) 0 [(5, (.acc 0 0 1 s10.2.length true)), (7, (.int .i64 x11)), (10, (l_I n)), (11, (.int .i64 (n.length : Int))), (12, (.int .i64 s10.1))] [(some (.cells (F_B s10.2) false true))] .ret [(4, (.slice none 1 0 0 true))] [] ∧ lfe (rx_nums_Put_L2 n) (.inr (.inl ())) r)) ∧ ((isL x12) = false → (RunS (bexec C KK 41 WJ82_bbabklbbakba) 0 [(5, (.acc 0 0 1 s10.2.length true)), (7, (.int .i64 x11)), (10, (l_I n)), (11, (.int .i64 (n.length : Int))), (12, (.int .i64 s10.1))] [(some (.cells (F_B s10.2) false true))] .normal [(5, (.acc 0 0 1 s10.2.length true)), (7, (.int .i64 x11)), (10, (l_I n)), (11, (.int .i64 (n.length : Int))), (12, (.int .i64 s10.1))] [(some (.cells (F_B s10.2) false true))] ∧ (RunS (bloop (bexec C KK 41 WB82_1) [5, 7, 10, 11, 12] KK) 0 [(5, (.acc 0 0 1 s10.2.length true)), (7, (.int .i64 x11)), (10, (l_I n)), (11, (.int .i64 (n.length : Int))), (12, (.int .i64 s10.1))] [(some (.cells (F_B s10.2) false true))] (.exit 2) [(5, (.acc 0 0 1 x17.2.length true)), (7, (.int .i64 x17.1)), (10, (l_I n)), (11, (.int .i64 (n.length : Int))), (12, (.int .i64 s10.1))] [(some (.cells (F_B x17.2) false true))] ∧ (@Eq (Option AV) (some (.int .u8 (IntKind.u8.wrap x17.1))) (some (.int .u8 ((u8w x17.1).toNat : Int))) ∧ (x17.2.length + 1 = (x17.2 ++ [(u8w x17.1)]).length ∧ (F_B x17.2 ++ F_B ([(u8w x17.1)]) = F_B (x17.2 ++ [(u8w x17.1)]) ∧ (fitsB 1 (x17.2 ++ [(u8w x17.1)]).length = true ∧ lfe (rx_nums_Put_L2 n) (.inl ((IntKind.i64.wrap (s10.1 + 1)), (x17.2 ++ [(u8w x17.1)]))) r)))))))))) ∧ ((decide (s10.1 < (n.length : Int))) = false → lfe (rx_nums_Put_L2 n) (.inr (.inr s10.2)) r)) := fun C => by kernel_rfl
  refine runS_of (fun _ _ h => by cases h) WB82_0_ok (Nat.le_of_ble_eq_true rfl) ((e _).mpr ?_)
  unfold nums_Put_L2_s at h
  refine ⟨fun hb => ?_, fun hb => ?_⟩
  · have h := cond_t hb h
    obtain ⟨q11, h⟩ := bget hx11 h
    refine ⟨wP_idx R_I q11, ?_⟩
    obtain ⟨q12, h⟩ := bget hx12 h
    refine ⟨fun hb13 => ?_, fun hb13 => ?_⟩
    · have h := cond_t hb13 h
      refine ⟨by have h := s_nums_Put_J0 (d + 0) q12; rw [isL_t hb13] at h; exact h, ?_⟩
      exact lfe_of h
    · have h := cond_f hb13 h
      refine ⟨by have h := s_nums_Put_J0 (d + 0) q12; rw [isL_f hb13] at h; exact h, ?_⟩
      obtain ⟨q17, h⟩ := bget hx17 h
      refine ⟨s_nums_Put_L1 (d + 0) q17, ?_⟩
      refine ⟨u8_w _, ?_⟩
      obtain ⟨q18, h⟩ := gd_some h
      refine ⟨by simp, ?_⟩
      refine ⟨(Row.app R_B _ _).symm, ?_⟩
      refine ⟨q18, ?_⟩
      exact lfe_of h
  · have h := cond_f hb h
    exact lfe_of h
theorem s_nums_Put_L2 (d : Nat) {n : List Int} {s10 : Int × List UInt8} {r : Unit ⊕ (List UInt8)} (h : nums_Put_L2 n s10 = some r) : RunX (bloop (bexec (wcalls atab (d + 0)) KK 41 WB82_0) [5, 10, 11, 12] KK) 0 (inL [5, 10, 11, 12] (st_nums_Put_L2 n s10)) (fin_nums_Put_L2 n r) :=
  loop_of (st := st_nums_Put_L2 n) (fin := fin_nums_Put_L2 n) (step := nums_Put_L2_s n) (fun e => by rcases e with e | e <;> (intro h; cases h)) (fun s x h => b_nums_Put_L2 d h) KK s10 r h

def nums_Put (p_b : List UInt8) (n : List Int) : Option (List UInt8) :=
  gd (fitsB 1 p_b.length) ((nums_Put_L2 n (0, p_b)).bind fun (x19 : Unit ⊕ (List UInt8)) => cond (isL x19) (some []) (some (getR x19)))
def out_nums_Put (p_b : List UInt8) (n : List Int) (r : List UInt8) : AV × WH := ((l_B r), [])

theorem s_nums_Put (d : Nat) {p_b : List UInt8} {n : List Int} {r : List UInt8} (h : nums_Put p_b n = some r) : Spec (wcalls atab (d + 2)) 82 [(l_B p_b), (l_I n)] [] (out_nums_Put p_b n r).1 (out_nums_Put p_b n r).2 := by
  obtain ⟨x19, hx19⟩ := wx (nums_Put_L2 n (0, p_b))
  have e : ∀ C : ACalls, wBody C wB KK WF82 [(l_B p_b), (l_I n)] [] (.ite (isL x19) (.lp [none, none, none, none] [] [] .ret [(4, (.slice none 1 0 0 true))] [] (.fin (some false) [] none)) (.lp [none, none, none, none] [] [] (.exit 0) [(5, (.acc 0 0 1 ((getR x19).length) true))] [(some (.cells (F_B (getR x19)) false true))] (.fin (some false) [] none))) (out_nums_Put p_b n r).1 (out_nums_Put p_b n r).2 = (2 = 2 ∧ 2 ≤ 41 ∧ (fitsB 1 p_b.length = true ∧ (((isL x19) = true → (RunS (bloop (bexec C KK 41 WB82_0) [5, 10, 11, 12] KK) 0 [(5, (.acc 0 0 1 p_b.length true)), (10, (l_I n)), (11, (.int .i64 (n.length : Int))), (12, (.int .i64 0))] [(some (.cells (F_B p_b) false true))] .ret [(4, (.slice none 1 0 0 true))] [] ∧ lff (out_nums_Put p_b n) [] r)) ∧ ((isL x19) = false → (RunS (bloop (bexec C KK 41 WB82_0) [5, 10, 11, 12] KK) 0 [(5, (.acc 0 0 1 p_b.length true)), (10, (l_I n)), (11, (.int .i64 (n.length : Int))), (12, (.int .i64 0))] [(some (.cells (F_B p_b) false true))] (.exit 0) [(5, (.acc 0 0 1 ((getR x19).length) true))] [(some (.cells (F_B (getR x19)) false true))] ∧ lff (out_nums_Put p_b n) (getR x19) r))))) := fun C => by kernel_rfl
  refine spec_of (wB_ok _) rfl atab_82 WF82_ok ((e _).mpr ⟨rfl, by decide, ?_⟩)
  unfold nums_Put at h
  obtain ⟨q1, h⟩ := gd_some h
  refine ⟨q1, ?_⟩
  obtain ⟨q19, h⟩ := bget hx19 h
  refine ⟨fun hb20 => ?_, fun hb20 => ?_⟩
  · have h := cond_t hb20 h
    refine ⟨by have h := s_nums_Put_L2 (d + 1) q19; rw [isL_t hb20] at h; exact h, ?_⟩
    exact lff_of h
  · have h := cond_f hb20 h
    refine ⟨by have h := s_nums_Put_L2 (d + 1) q19; rw [isL_f hb20] at h; exact h, ?_⟩
    exact lff_of h

/- osmosis/hash.Sum -/
def st_hash_Sum_L0 (x8 : List UInt8) (parts : List (List UInt8)) (s7 : Int × Int) (s11 : Int × Int) : List AV × WH := ([(.int .u64 s11.1), (l_S parts), (.int .i64 (parts.length : Int)), (.int .i64 s7.2), (.acc 0 0 1 x8.length true), (.int .i64 (x8.length : Int)), (.int .i64 s11.2)], [(some (.cells (F_B x8) false true))])
def fin_hash_Sum_L0 (x8 : List UInt8) (parts : List (List UInt8)) (s7 : Int × Int) : Int → Ex × Fast × WH := fun e => ((.exit 2), [(3, (.int .u64 e)), (8, (l_S parts)), (9, (.int .i64 (parts.length : Int))), (10, (.int .i64 s7.2))], [])
abbrev rx_hash_Sum_L0 (x8 : List UInt8) (parts : List (List UInt8)) (s7 : Int × Int) := roundX [3, 8, 9, 10, 15, 16, 17] (st_hash_Sum_L0 x8 parts s7) (fin_hash_Sum_L0 x8 parts s7)
def hash_Sum_L0_s (x8 : List UInt8) (parts : List (List UInt8)) (s7 : Int × Int) (s11 : Int × Int) : Option ((Int × Int) ⊕ (Int)) :=
  cond (decide (s11.2 < (x8.length : Int))) ((getI x8 s11.2).bind fun (x12 : UInt8) => some (.inl ((IntKind.u64.wrap ((xorI .u64 s11.1 (IntKind.u64.wrap (x12.toNat : Int))) * 1099511628211)), (IntKind.i64.wrap (s11.2 + 1))))) (some (.inr s11.1))
def hash_Sum_L0 (x8 : List UInt8) (parts : List (List UInt8)) (s7 : Int × Int) (s11 : Int × Int) : Option (Int) := loopX (hash_Sum_L0_s x8 parts s7) KK s11
theorem b_hash_Sum_L0 (d : Nat) {x8 : List UInt8} {parts : List (List UInt8)} {s7 : Int × Int} {s11 : Int × Int} {r : (Int × Int) ⊕ (Int)} (h : hash_Sum_L0_s x8 parts s7 s11 = some r) : RunX (bexec (wcalls atab (d + 0)) KK 32 WB118_1) 0 (inL [3, 8, 9, 10, 15, 16, 17] (st_hash_Sum_L0 x8 parts s7 s11)) (rx_hash_Sum_L0 x8 parts s7 r) := by
  obtain ⟨x12, hx12⟩ := wx (getI x8 s11.2)
  have e : ∀ C : ACalls, wCode C (fun _ => none) KK 32 0 WB118_1 (inL [3, 8, 9, 10, 15, 16, 17] (st_hash_Sum_L0 x8 parts s7 s11)).1 (inL [3, 8, 9, 10, 15, 16, 17] (st_hash_Sum_L0 x8 parts s7 s11)).2 (.br 18 (.v 19 (.ptr (some (0, 0 + s11.2.toNat * 1))) (.v 20 (.int .u8 (x12.toNat : Int)) (.en [3, 8, 9, 10, 15, 16, 17] [none, none, none, none, none, none, none] [] []))) (.en [3, 8, 9, 10] [none, none, none, none] [] [])) (rx_hash_Sum_L0 x8 parts s7 r) = (((decide (s11.2 < (x8.length : Int))) = true → (wP (.idxSlice 1 (.c (.acc 0 0 1 x8.length true)) (.c (.int .i64 s11.2))) = some (.ptr (some (0, 0 + s11.2.toNat * 1))) ∧ (cPart false (0 + s11.2.toNat * 1) 1 (F_B x8) = some (.int .u8 (x12.toNat : Int)) ∧ lfe (rx_hash_Sum_L0 x8 parts s7) (.inl ((IntKind.u64.wrap ((xorI .u64 s11.1 (IntKind.u64.wrap (x12.toNat : Int))) * 1099511628211)), (IntKind.i64.wrap (s11.2 + 1)))) r))) ∧ ((decide (s11.2 < (x8.length : Int))) = false → lfe (rx_hash_Sum_L0 x8 parts s7) (.inr s11.1) r)) := fun C => by kernel_rfl
  refine runS_of (fun _ _ h => by cases h) WB118_1_ok (Nat.le_of_ble_eq_true rfl) ((e _).mpr ?_)
  unfold hash_Sum_L0_s at h
  refine ⟨fun hb => ?_, fun hb => ?_⟩
  · have h := cond_t hb h
    obtain ⟨q12, h⟩ := bget hx12 h
    refine ⟨wP_idxA R_B q12, ?_⟩
    refine ⟨cP_row (o := 0) R_B q12 rfl, ?_⟩
    exact lfe_of h
  · have h := cond_f hb h
    exact lfe_of h
theorem s_hash_Sum_L0 (d : Nat) {x8 : List UInt8} {parts : List (List UInt8)} {s7 : Int × Int} {s11 : Int × Int} {r : Int} (h : hash_Sum_L0 x8 parts s7 s11 = some r) : RunX (bloop (bexec (wcalls atab (d + 0)) KK 32 WB118_1) [3, 8, 9, 10, 15, 16, 17] KK) 0 (inL [3, 8, 9, 10, 15, 16, 17] (st_hash_Sum_L0 x8 parts s7 s11)) (fin_hash_Sum_L0 x8 parts s7 r) :=
  loop_of (st := st_hash_Sum_L0 x8 parts s7) (fin := fin_hash_Sum_L0 x8 parts s7) (step := hash_Sum_L0_s x8 parts s7) (fun e => by (intro h; cases h)) (fun s x h => b_hash_Sum_L0 d h) KK s11 r h

def st_hash_Sum_L1 (parts : List (List UInt8)) (s7 : Int × Int) : List AV × WH := ([(.int .u64 s7.1), (l_S parts), (.int .i64 (parts.length : Int)), (.int .i64 s7.2)], [])
def fin_hash_Sum_L1 (parts : List (List UInt8)) : Int → Ex × Fast × WH := fun e => ((.exit 0), [(3, (.int .u64 e))], [])
abbrev rx_hash_Sum_L1 (parts : List (List UInt8)) := roundX [3, 8, 9, 10] (st_hash_Sum_L1 parts) (fin_hash_Sum_L1 parts)
def hash_Sum_L1_s (parts : List (List UInt8)) (s7 : Int × Int) : Option ((Int × Int) ⊕ (Int)) :=
  cond (decide (s7.2 < (parts.length : Int))) ((getI parts s7.2).bind fun (x8 : List UInt8) => gd (decide (x8.length ≤ 70368744177664)) ((hash_Sum_L0 x8 parts s7 (s7.1, 0)).bind fun (x13 : Int) => some (.inl ((IntKind.u64.wrap ((xorI .u64 x13 256) * 1099511628211)), (IntKind.i64.wrap (s7.2 + 1)))))) (some (.inr s7.1))
def hash_Sum_L1 (parts : List (List UInt8)) (s7 : Int × Int) : Option (Int) := loopX (hash_Sum_L1_s parts) KK s7
theorem b_hash_Sum_L1 (d : Nat) {parts : List (List UInt8)} {s7 : Int × Int} {r : (Int × Int) ⊕ (Int)} (h : hash_Sum_L1_s parts s7 = some r) : RunX (bexec (wcalls atab (d + 0)) KK 32 WB118_0) 0 (inL [3, 8, 9, 10] (st_hash_Sum_L1 parts s7)) (rx_hash_Sum_L1 parts r) := by
  obtain ⟨x8, hx8⟩ := wx (getI parts s7.2)
  obtain ⟨x13, hx13⟩ := wx (hash_Sum_L0 x8 parts s7 (s7.1, 0))
  have e : ∀ C : ACalls, wCode C (fun _ => none) KK 32 0 WB118_0 (inL [3, 8, 9, 10] (st_hash_Sum_L1 parts s7)).1 (inL [3, 8, 9, 10] (st_hash_Sum_L1 parts s7)).2 (.br 11 (.v 12 (.elem ([(.str x8)] ++ F_S (parts.drop (s7.2.toNat + 1)))) (.lp [none, none, none, none, none, none, none] [] [] (.exit 2) [(3, (.int .u64 x13)), (8, (l_S parts)), (9, (.int .i64 (parts.length : Int))), (10, (.int .i64 s7.2))] [] (.en [3, 8, 9, 10] [none, none, none, none] [] []))) (.en [3] [none] [] [])) (rx_hash_Sum_L1 parts r) = (((decide (s7.2 < (parts.length : Int))) = true → (wP (.idxSlice 1 (.c (l_S parts)) (.c (.int .i64 s7.2))) = some (.elem ([(.str x8)] ++ F_S (parts.drop (s7.2.toNat + 1)))) ∧ (x8.length ≤ 70368744177664 ∧ (RunS (bloop (bexec C KK 32 WB118_1) [3, 8, 9, 10, 15, 16, 17] KK) 0 [(3, (.int .u64 s7.1)), (8, (l_S parts)), (9, (.int .i64 (parts.length : Int))), (10, (.int .i64 s7.2)), (15, (.acc 0 0 1 x8.length true)), (16, (.int .i64 (x8.length : Int))), (17, (.int .i64 0))] [(some (.cells (F_B x8) false true))] (.exit 2) [(3, (.int .u64 x13)), (8, (l_S parts)), (9, (.int .i64 (parts.length : Int))), (10, (.int .i64 s7.2))] [] ∧ lfe (rx_hash_Sum_L1 parts) (.inl ((IntKind.u64.wrap ((xorI .u64 x13 256) * 1099511628211)), (IntKind.i64.wrap (s7.2 + 1)))) r)))) ∧ ((decide (s7.2 < (parts.length : Int))) = false → lfe (rx_hash_Sum_L1 parts) (.inr s7.1) r)) := fun C => by kernel_rfl
  refine runS_of (fun _ _ h => by cases h) WB118_0_ok (Nat.le_of_ble_eq_true rfl) ((e _).mpr ?_)
  unfold hash_Sum_L1_s at h
  refine ⟨fun hb => ?_, fun hb => ?_⟩
  · have h := cond_t hb h
    obtain ⟨q8, h⟩ := bget hx8 h
    refine ⟨wP_idx R_S q8, ?_⟩
    obtain ⟨q9, h⟩ := gd_some h
    refine ⟨of_decide_eq_true q9, ?_⟩
    obtain ⟨q13, h⟩ := bget hx13 h
    refine ⟨s_hash_Sum_L0 (d + 0) q13, ?_⟩
    exact lfe_of h
  · have h := cond_f hb h
    exact lfe_of h
theorem s_hash_Sum_L1 (d : Nat) {parts : List (List UInt8)} {s7 : Int × Int} {r : Int} (h : hash_Sum_L1 parts s7 = some r) : RunX (bloop (bexec (wcalls atab (d + 0)) KK 32 WB118_0) [3, 8, 9, 10] KK) 0 (inL [3, 8, 9, 10] (st_hash_Sum_L1 parts s7)) (fin_hash_Sum_L1 parts r) :=
  loop_of (st := st_hash_Sum_L1 parts) (fin := fin_hash_Sum_L1 parts) (step := hash_Sum_L1_s parts) (fun e => by (intro h; cases h)) (fun s x h => b_hash_Sum_L1 d h) KK s7 r h

def hash_Sum (parts : List (List UInt8)) : Option (Int) :=
  (hash_Sum_L1 parts (14695981039346656037, 0)).bind fun (x14 : Int) => some x14
def out_hash_Sum (parts : List (List UInt8)) (r : Int) : AV × WH := ((.int .u64 r), [])

theorem s_hash_Sum (d : Nat) {parts : List (List UInt8)} {r : Int} (h : hash_Sum parts = some r) : Spec (wcalls atab (d + 1)) 118 [(l_S parts)] [] (out_hash_Sum parts r).1 (out_hash_Sum parts r).2 := by
  obtain ⟨x14, hx14⟩ := wx (hash_Sum_L1 parts (14695981039346656037, 0))
  have e : ∀ C : ACalls, wBody C (fun _ => none) KK WF118 [(l_S parts)] [] (.lp [none, none, none, none] [] [] (.exit 0) [(3, (.int .u64 x14))] [] (.fin (some false) [] none)) (out_hash_Sum parts r).1 (out_hash_Sum parts r).2 = (1 = 1 ∧ 1 ≤ 32 ∧ (RunS (bloop (bexec C KK 32 WB118_0) [3, 8, 9, 10] KK) 0 [(3, (.int .u64 14695981039346656037)), (8, (l_S parts)), (9, (.int .i64 (parts.length : Int))), (10, (.int .i64 0))] [] (.exit 0) [(3, (.int .u64 x14))] [] ∧ lff (out_hash_Sum parts) x14 r)) := fun C => by kernel_rfl
  refine spec_of (fun _ _ h => by cases h) rfl atab_118 WF118_ok ((e _).mpr ⟨rfl, by decide, ?_⟩)
  unfold hash_Sum at h
  obtain ⟨q14, h⟩ := bget hx14 h
  refine ⟨s_hash_Sum_L1 (d + 0) q14, ?_⟩
  exact lff_of h

/- osmosis/frame.sum -/
def st_frame_sum_L0 (x1 : Int) (s6 : Int × List UInt8) : List AV × WH := ([(.int .u64 x1), (.acc 0 0 1 s6.2.length true), (.int .i64 s6.1)], [(some (.cells (F_B s6.2) false true))])
def fin_frame_sum_L0 (x1 : Int) : (List UInt8) → Ex × Fast × WH := fun e => ((.exit 0), [(4, (.acc 0 0 1 e.length true))], [(some (.cells (F_B e) false true))])
abbrev rx_frame_sum_L0 (x1 : Int) := roundX [3, 4, 10] (st_frame_sum_L0 x1) (fin_frame_sum_L0 x1)
def frame_sum_L0_s (x1 : Int) (s6 : Int × List UInt8) : Option ((Int × List UInt8) ⊕ ((List UInt8))) :=
  cond (decide (s6.1 < 8)) ((shrI .u64 x1 (IntKind.i64.wrap (8 * (IntKind.i64.wrap (7 - s6.1))))).bind fun (x7 : Int) => gd (fitsB 1 (s6.2 ++ [(u8w x7)]).length) (some (.inl ((IntKind.i64.wrap (s6.1 + 1)), (s6.2 ++ [(u8w x7)]))))) (some (.inr s6.2))
def frame_sum_L0 (x1 : Int) (s6 : Int × List UInt8) : Option ((List UInt8)) := loopX (frame_sum_L0_s x1) KK s6
theorem b_frame_sum_L0 (d : Nat) {x1 : Int} {s6 : Int × List UInt8} {r : (Int × List UInt8) ⊕ ((List UInt8))} (h : frame_sum_L0_s x1 s6 = some r) : RunX (bexec (wcalls atab (d + 0)) KK 24 WB83_0) 0 (inL [3, 4, 10] (st_frame_sum_L0 x1 s6)) (rx_frame_sum_L0 x1 r) := by
  obtain ⟨x7, hx7⟩ := wx (shrI .u64 x1 (IntKind.i64.wrap (8 * (IntKind.i64.wrap (7 - s6.1)))))
  have e : ∀ C : ACalls, wCode C (fun _ => none) KK 24 0 WB83_0 (inL [3, 4, 10] (st_frame_sum_L0 x1 s6)).1 (inL [3, 4, 10] (st_frame_sum_L0 x1 s6)).2 (.br 11 (.v 18 (.int .u64 x7) (.v 19 (.int .u8 ((u8w x7).toNat : Int)) (.ap 21 (s6.2 ++ [(u8w x7)]).length (F_B (s6.2 ++ [(u8w x7)])) (.en [3, 4, 10] [none, none, none] [] [])))) (.en [4] [none] [] [])) (rx_frame_sum_L0 x1 r) = (((decide (s6.1 < 8)) = true → (aBin .shr (.int .u64 x1) (.int .i64 (IntKind.i64.wrap (8 * (IntKind.i64.wrap (7 - s6.1))))) = some (.int .u64 x7) ∧ (@Eq (Option AV) (some (.int .u8 (IntKind.u8.wrap x7))) (some (.int .u8 ((u8w x7).toNat : Int))) ∧ (s6.2.length + 1 = (s6.2 ++ [(u8w x7)]).length ∧ (F_B s6.2 ++ F_B ([(u8w x7)]) = F_B (s6.2 ++ [(u8w x7)]) ∧ (fitsB 1 (s6.2 ++ [(u8w x7)]).length = true ∧ lfe (rx_frame_sum_L0 x1) (.inl ((IntKind.i64.wrap (s6.1 + 1)), (s6.2 ++ [(u8w x7)]))) r)))))) ∧ ((decide (s6.1 < 8)) = false → lfe (rx_frame_sum_L0 x1) (.inr s6.2) r)) := fun C => by kernel_rfl
  refine runS_of (fun _ _ h => by cases h) WB83_0_ok (Nat.le_of_ble_eq_true rfl) ((e _).mpr ?_)
  unfold frame_sum_L0_s at h
  refine ⟨fun hb => ?_, fun hb => ?_⟩
  · have h := cond_t hb h
    obtain ⟨q7, h⟩ := bget hx7 h
    refine ⟨wP_shr q7, ?_⟩
    refine ⟨u8_w _, ?_⟩
    obtain ⟨q8, h⟩ := gd_some h
    refine ⟨by simp, ?_⟩
    refine ⟨(Row.app R_B _ _).symm, ?_⟩
    refine ⟨q8, ?_⟩
    exact lfe_of h
  · have h := cond_f hb h
    exact lfe_of h
theorem s_frame_sum_L0 (d : Nat) {x1 : Int} {s6 : Int × List UInt8} {r : (List UInt8)} (h : frame_sum_L0 x1 s6 = some r) : RunX (bloop (bexec (wcalls atab (d + 0)) KK 24 WB83_0) [3, 4, 10] KK) 0 (inL [3, 4, 10] (st_frame_sum_L0 x1 s6)) (fin_frame_sum_L0 x1 r) :=
  loop_of (st := st_frame_sum_L0 x1) (fin := fin_frame_sum_L0 x1) (step := frame_sum_L0_s x1) (fun e => by (intro h; cases h)) (fun s x h => b_frame_sum_L0 d h) KK s6 r h

def frame_sum (record : List UInt8) : Option (List UInt8) :=
  (hash_Sum [record]).bind fun (x1 : Int) => (frame_sum_L0 x1 (0, [])).bind fun (x9 : (List UInt8)) => some x9
def out_frame_sum (record : List UInt8) (r : List UInt8) : AV × WH := ((l_B r), [])

theorem s_frame_sum (d : Nat) {record : List UInt8} {r : List UInt8} (h : frame_sum record = some r) : Spec (wcalls atab (d + 2)) 83 [(l_B record)] [] (out_frame_sum record r).1 (out_frame_sum record r).2 := by
  obtain ⟨x1, hx1⟩ := wx (hash_Sum [record])
  obtain ⟨x9, hx9⟩ := wx (frame_sum_L0 x1 (0, []))
  have e : ∀ C : ACalls, wBody C (fun _ => none) KK WF83 [(l_B record)] [] (.v 7 (.str record) (.cb [] [] (.int .u64 x1) (.lp [none, (some true), none] [] [] (.exit 0) [(4, (.acc 0 0 1 x9.length true))] [(some (.cells (F_B x9) false true))] (.fin (some false) [] none)))) (out_frame_sum record r).1 (out_frame_sum record r).2 = (1 = 1 ∧ 1 ≤ 24 ∧ ((toBytes (F_B record)).map AV.str = some (.str record) ∧ (Spec C 118 [(l_S [record])] [] (.int .u64 x1) [] ∧ (RunS (bloop (bexec C KK 24 WB83_0) [3, 4, 10] KK) 0 [(3, (.int .u64 x1)), (4, (.acc 0 0 1 0 true)), (10, (.int .i64 0))] [(some (.cells (F_B []) false true))] (.exit 0) [(4, (.acc 0 0 1 x9.length true))] [(some (.cells (F_B x9) false true))] ∧ lff (out_frame_sum record) x9 r)))) := fun C => by kernel_rfl
  refine spec_of (fun _ _ h => by cases h) rfl atab_83 WF83_ok ((e _).mpr ⟨rfl, by decide, ?_⟩)
  unfold frame_sum at h
  refine ⟨by rw [show F_B record = (record).map byteC from rfl, toBytes_map]; rfl, ?_⟩
  obtain ⟨q1, h⟩ := bget hx1 h
  refine ⟨s_hash_Sum (d + 0) q1, ?_⟩
  obtain ⟨q9, h⟩ := bget hx9 h
  refine ⟨s_frame_sum_L0 (d + 1) q9, ?_⟩
  exact lff_of h

/- slices.Concat[[]byte,byte] -/
def st_slices_Concat_byte_byte_L0 (a0 : List (List UInt8)) (s2 : Int × Int) : List AV × WH := ([(l_LB a0), (.int .i64 s2.1), (l_LB a0), (.int .i64 (a0.length : Int)), (.int .i64 s2.2)], [])
def fin_slices_Concat_byte_byte_L0 (a0 : List (List UInt8)) : Int → Ex × Fast × WH := fun e => ((.exit 0), [(0, (l_LB a0)), (3, (.int .i64 e))], [])
abbrev rx_slices_Concat_byte_byte_L0 (a0 : List (List UInt8)) := roundX [0, 3, 9, 10, 11] (st_slices_Concat_byte_byte_L0 a0) (fin_slices_Concat_byte_byte_L0 a0)
def slices_Concat_byte_byte_L0_s (a0 : List (List UInt8)) (s2 : Int × Int) : Option ((Int × Int) ⊕ (Int)) :=
  cond (decide (s2.2 < (a0.length : Int))) ((getI a0 s2.2).bind fun (x3 : List UInt8) => cond (decide ((IntKind.i64.wrap (s2.1 + (x3.length : Int))) < 0)) (none) (some (.inl ((IntKind.i64.wrap (s2.1 + (x3.length : Int))), (IntKind.i64.wrap (s2.2 + 1)))))) (some (.inr s2.1))
def slices_Concat_byte_byte_L0 (a0 : List (List UInt8)) (s2 : Int × Int) : Option (Int) := loopX (slices_Concat_byte_byte_L0_s a0) KK s2
theorem b_slices_Concat_byte_byte_L0 (d : Nat) {a0 : List (List UInt8)} {s2 : Int × Int} {r : (Int × Int) ⊕ (Int)} (h : slices_Concat_byte_byte_L0_s a0 s2 = some r) : RunX (bexec (wcalls atab (d + 0)) KK 36 WB81_0) 0 (inL [0, 3, 9, 10, 11] (st_slices_Concat_byte_byte_L0 a0 s2)) (rx_slices_Concat_byte_byte_L0 a0 r) := by
  obtain ⟨x3, hx3⟩ := wx (getI a0 s2.2)
  have e : ∀ C : ACalls, wCode C (fun _ => none) KK 36 0 WB81_0 (inL [0, 3, 9, 10, 11] (st_slices_Concat_byte_byte_L0 a0 s2)).1 (inL [0, 3, 9, 10, 11] (st_slices_Concat_byte_byte_L0 a0 s2)).2 (.br 12 (.v 13 (.elem ([(l_B x3)] ++ F_LB (a0.drop (s2.2.toNat + 1)))) (.br 20 (.nil) (.en [0, 3, 9, 10, 11] [none, none, none, none, none] [] []))) (.en [0, 3] [none, none] [] [])) (rx_slices_Concat_byte_byte_L0 a0 r) = (((decide (s2.2 < (a0.length : Int))) = true → (wP (.idxSlice 1 (.c (l_LB a0)) (.c (.int .i64 s2.2))) = some (.elem ([(l_B x3)] ++ F_LB (a0.drop (s2.2.toNat + 1)))) ∧ (((decide ((IntKind.i64.wrap (s2.1 + (x3.length : Int))) < 0)) = true → False) ∧ ((decide ((IntKind.i64.wrap (s2.1 + (x3.length : Int))) < 0)) = false → lfe (rx_slices_Concat_byte_byte_L0 a0) (.inl ((IntKind.i64.wrap (s2.1 + (x3.length : Int))), (IntKind.i64.wrap (s2.2 + 1)))) r)))) ∧ ((decide (s2.2 < (a0.length : Int))) = false → lfe (rx_slices_Concat_byte_byte_L0 a0) (.inr s2.1) r)) := fun C => by kernel_rfl
  refine runS_of (fun _ _ h => by cases h) WB81_0_ok (Nat.le_of_ble_eq_true rfl) ((e _).mpr ?_)
  unfold slices_Concat_byte_byte_L0_s at h
  refine ⟨fun hb => ?_, fun hb => ?_⟩
  · have h := cond_t hb h
    obtain ⟨q3, h⟩ := bget hx3 h
    refine ⟨wP_idx R_LB q3, ?_⟩
    refine ⟨fun hb => ?_, fun hb => ?_⟩
    · have h := cond_t hb h
      cases h
    · have h := cond_f hb h
      exact lfe_of h
  · have h := cond_f hb h
    exact lfe_of h
theorem s_slices_Concat_byte_byte_L0 (d : Nat) {a0 : List (List UInt8)} {s2 : Int × Int} {r : Int} (h : slices_Concat_byte_byte_L0 a0 s2 = some r) : RunX (bloop (bexec (wcalls atab (d + 0)) KK 36 WB81_0) [0, 3, 9, 10, 11] KK) 0 (inL [0, 3, 9, 10, 11] (st_slices_Concat_byte_byte_L0 a0 s2)) (fin_slices_Concat_byte_byte_L0 a0 r) :=
  loop_of (st := st_slices_Concat_byte_byte_L0 a0) (fin := fin_slices_Concat_byte_byte_L0 a0) (step := slices_Concat_byte_byte_L0_s a0) (fun e => by (intro h; cases h)) (fun s x h => b_slices_Concat_byte_byte_L0 d h) KK s2 r h

def st_slices_Concat_byte_byte_L1 (a0 : List (List UInt8)) (s8 : Int × List UInt8) : List AV × WH := ([(.acc 0 0 1 s8.2.length true), (l_LB a0), (.int .i64 (a0.length : Int)), (.int .i64 s8.1)], [(some (.cells (F_B s8.2) false true))])
def fin_slices_Concat_byte_byte_L1 (a0 : List (List UInt8)) : (List UInt8) → Ex × Fast × WH := fun e => ((.exit 2), [(6, (.acc 0 0 1 e.length true))], [(some (.cells (F_B e) false true))])
abbrev rx_slices_Concat_byte_byte_L1 (a0 : List (List UInt8)) := roundX [6, 25, 26, 27] (st_slices_Concat_byte_byte_L1 a0) (fin_slices_Concat_byte_byte_L1 a0)
def slices_Concat_byte_byte_L1_s (a0 : List (List UInt8)) (s8 : Int × List UInt8) : Option ((Int × List UInt8) ⊕ ((List UInt8))) :=
  cond (decide (s8.1 < (a0.length : Int))) ((getI a0 s8.1).bind fun (x9 : List UInt8) => gd (fitsB 1 (s8.2 ++ x9).length) (some (.inl ((IntKind.i64.wrap (s8.1 + 1)), (s8.2 ++ x9))))) (some (.inr s8.2))
def slices_Concat_byte_byte_L1 (a0 : List (List UInt8)) (s8 : Int × List UInt8) : Option ((List UInt8)) := loopX (slices_Concat_byte_byte_L1_s a0) KK s8
theorem b_slices_Concat_byte_byte_L1 (d : Nat) {a0 : List (List UInt8)} {s8 : Int × List UInt8} {r : (Int × List UInt8) ⊕ ((List UInt8))} (h : slices_Concat_byte_byte_L1_s a0 s8 = some r) : RunX (bexec (wcalls atab (d + 0)) KK 36 WB81_1) 0 (inL [6, 25, 26, 27] (st_slices_Concat_byte_byte_L1 a0 s8)) (rx_slices_Concat_byte_byte_L1 a0 r) := by
  obtain ⟨x9, hx9⟩ := wx (getI a0 s8.1)
  have e : ∀ C : ACalls, wCode C (fun _ => none) KK 36 0 WB81_1 (inL [6, 25, 26, 27] (st_slices_Concat_byte_byte_L1 a0 s8)).1 (inL [6, 25, 26, 27] (st_slices_Concat_byte_byte_L1 a0 s8)).2 (.br 28 (.v 29 (.elem ([(l_B x9)] ++ F_LB (a0.drop (s8.1.toNat + 1)))) (.ap 33 (s8.2 ++ x9).length (F_B (s8.2 ++ x9)) (.en [6, 25, 26, 27] [none, none, none, none] [] []))) (.en [6] [none] [] [])) (rx_slices_Concat_byte_byte_L1 a0 r) = (((decide (s8.1 < (a0.length : Int))) = true → (wP (.idxSlice 1 (.c (l_LB a0)) (.c (.int .i64 s8.1))) = some (.elem ([(l_B x9)] ++ F_LB (a0.drop (s8.1.toNat + 1)))) ∧ (s8.2.length + x9.length = (s8.2 ++ x9).length ∧ (F_B s8.2 ++ F_B x9 = F_B (s8.2 ++ x9) ∧ (fitsB 1 (s8.2 ++ x9).length = true ∧ lfe (rx_slices_Concat_byte_byte_L1 a0) (.inl ((IntKind.i64.wrap (s8.1 + 1)), (s8.2 ++ x9))) r))))) ∧ ((decide (s8.1 < (a0.length : Int))) = false → lfe (rx_slices_Concat_byte_byte_L1 a0) (.inr s8.2) r)) := fun C => by kernel_rfl
  refine runS_of (fun _ _ h => by cases h) WB81_1_ok (Nat.le_of_ble_eq_true rfl) ((e _).mpr ?_)
  unfold slices_Concat_byte_byte_L1_s at h
  refine ⟨fun hb => ?_, fun hb => ?_⟩
  · have h := cond_t hb h
    obtain ⟨q9, h⟩ := bget hx9 h
    refine ⟨wP_idx R_LB q9, ?_⟩
    obtain ⟨q10, h⟩ := gd_some h
    refine ⟨app_len _ _, ?_⟩
    refine ⟨(Row.app R_B _ _).symm, ?_⟩
    refine ⟨q10, ?_⟩
    exact lfe_of h
  · have h := cond_f hb h
    exact lfe_of h
theorem s_slices_Concat_byte_byte_L1 (d : Nat) {a0 : List (List UInt8)} {s8 : Int × List UInt8} {r : (List UInt8)} (h : slices_Concat_byte_byte_L1 a0 s8 = some r) : RunX (bloop (bexec (wcalls atab (d + 0)) KK 36 WB81_1) [6, 25, 26, 27] KK) 0 (inL [6, 25, 26, 27] (st_slices_Concat_byte_byte_L1 a0 s8)) (fin_slices_Concat_byte_byte_L1 a0 r) :=
  loop_of (st := st_slices_Concat_byte_byte_L1 a0) (fin := fin_slices_Concat_byte_byte_L1 a0) (step := slices_Concat_byte_byte_L1_s a0) (fun e => by (intro h; cases h)) (fun s x h => b_slices_Concat_byte_byte_L1 d h) KK s8 r h

def slices_Concat_byte_byte (a0 : List (List UInt8)) : Option (List UInt8) :=
  (slices_Concat_byte_byte_L0 a0 (0, 0)).bind fun (x4 : Int) => gd (growB 1 x4) ((slices_Concat_byte_byte_L1 a0 (0, ([] : List UInt8))).bind fun (x11 : (List UInt8)) => some x11)
def out_slices_Concat_byte_byte (a0 : List (List UInt8)) (r : List UInt8) : AV × WH := ((l_B r), [])

theorem s_slices_Concat_byte_byte (d : Nat) {a0 : List (List UInt8)} {r : List UInt8} (h : slices_Concat_byte_byte a0 = some r) : Spec (wcalls atab (d + 2)) 81 [(l_LB a0)] [] (out_slices_Concat_byte_byte a0 r).1 (out_slices_Concat_byte_byte a0 r).2 := by
  obtain ⟨x4, hx4⟩ := wx (slices_Concat_byte_byte_L0 a0 (0, 0))
  obtain ⟨x11, hx11⟩ := wx (slices_Concat_byte_byte_L1 a0 (0, ([] : List UInt8)))
  have e : ∀ C : ACalls, wBody C wB KK WF81 [(l_LB a0)] [] (.lp [none, none, none, none, none] [] [] (.exit 0) [(0, (l_LB a0)), (3, (.int .i64 x4))] [] (.lp [none, none, none, none] [] [] (.exit 2) [(6, (.acc 0 0 1 x11.length true))] [(some (.cells (F_B x11) false true))] (.fin (some false) [] none))) (out_slices_Concat_byte_byte a0 r).1 (out_slices_Concat_byte_byte a0 r).2 = (1 = 1 ∧ 1 ≤ 36 ∧ (RunS (bloop (bexec C KK 36 WB81_0) [0, 3, 9, 10, 11] KK) 0 [(0, (l_LB a0)), (3, (.int .i64 0)), (9, (l_LB a0)), (10, (.int .i64 (a0.length : Int))), (11, (.int .i64 0))] [] (.exit 0) [(0, (l_LB a0)), (3, (.int .i64 x4))] [] ∧ ((0 ≤ x4 ∧ x4 ≤ 70368744177664 ∧ 1 * (x4).toNat ≤ 281474976710656 ∧ (x4).toNat * 1 ≤ 70368744177664) ∧ (RunS (bloop (bexec C KK 36 WB81_1) [6, 25, 26, 27] KK) 0 [(6, (.acc 0 0 1 0 true)), (25, (l_LB a0)), (26, (.int .i64 (a0.length : Int))), (27, (.int .i64 0))] [(some (.cells (F_B ([] : List UInt8)) false true))] (.exit 2) [(6, (.acc 0 0 1 x11.length true))] [(some (.cells (F_B x11) false true))] ∧ lff (out_slices_Concat_byte_byte a0) x11 r)))) := fun C => by kernel_rfl
  refine spec_of (wB_ok _) rfl atab_81 WF81_ok ((e _).mpr ⟨rfl, by decide, ?_⟩)
  unfold slices_Concat_byte_byte at h
  obtain ⟨q4, h⟩ := bget hx4 h
  refine ⟨s_slices_Concat_byte_byte_L0 (d + 1) q4, ?_⟩
  obtain ⟨q5, h⟩ := gd_some h
  refine ⟨of_decide_eq_true q5, ?_⟩
  obtain ⟨q11, h⟩ := bget hx11 h
  refine ⟨s_slices_Concat_byte_byte_L1 (d + 1) q11, ?_⟩
  exact lff_of h

/- osmosis/frame.Lay -/
def st_frame_Lay_L0 (records : List (List UInt8)) (s10 : List UInt8 × Int) : List AV × WH := ([(l_B s10.1), (l_LB records), (.int .i64 (records.length : Int)), (.int .i64 s10.2)], [])
def fin_frame_Lay_L0 (records : List (List UInt8)) : (List UInt8) → Ex × Fast × WH := fun e => ((.exit 0), [(5, (l_B e))], [])
abbrev rx_frame_Lay_L0 (records : List (List UInt8)) := roundX [5, 10, 11, 12] (st_frame_Lay_L0 records) (fin_frame_Lay_L0 records)
def frame_Lay_L0_s (records : List (List UInt8)) (s10 : List UInt8 × Int) : Option ((List UInt8 × Int) ⊕ ((List UInt8))) :=
  cond (decide (s10.2 < (records.length : Int))) ((getI records s10.2).bind fun (x11 : List UInt8) => (nums_Put s10.1 ([(x11.length : Int)])).bind fun (x12 : List UInt8) => (frame_sum x11).bind fun (x13 : List UInt8) => (slices_Concat_byte_byte ([x12, x13, x11])).bind fun (x14 : List UInt8) => some (.inl (x14, (IntKind.i64.wrap (s10.2 + 1))))) (some (.inr s10.1))
def frame_Lay_L0 (records : List (List UInt8)) (s10 : List UInt8 × Int) : Option ((List UInt8)) := loopX (frame_Lay_L0_s records) KK s10
theorem b_frame_Lay_L0 (d : Nat) {records : List (List UInt8)} {s10 : List UInt8 × Int} {r : (List UInt8 × Int) ⊕ ((List UInt8))} (h : frame_Lay_L0_s records s10 = some r) : RunX (bexec (wcalls atab (d + 2)) KK 29 WB23_0) 0 (inL [5, 10, 11, 12] (st_frame_Lay_L0 records s10)) (rx_frame_Lay_L0 records r) := by
  obtain ⟨x11, hx11⟩ := wx (getI records s10.2)
  obtain ⟨x12, hx12⟩ := wx (nums_Put s10.1 ([(x11.length : Int)]))
  obtain ⟨x13, hx13⟩ := wx (frame_sum x11)
  obtain ⟨x14, hx14⟩ := wx (slices_Concat_byte_byte ([x12, x13, x11]))
  have e : ∀ C : ACalls, wCode C (fun _ => none) KK 29 0 WB23_0 (inL [5, 10, 11, 12] (st_frame_Lay_L0 records s10)).1 (inL [5, 10, 11, 12] (st_frame_Lay_L0 records s10)).2 (.br 13 (.v 14 (.elem ([(l_B x11)] ++ F_LB (records.drop (s10.2.toNat + 1)))) (.call [] (some false) [] (l_B x12) [] (.call [] (some false) [] (l_B x13) [] (.call [] (some false) [] (l_B x14) [] (.en [5, 10, 11, 12] [none, none, none, none] [] []))))) (.en [5] [none] [] [])) (rx_frame_Lay_L0 records r) = (((decide (s10.2 < (records.length : Int))) = true → (wP (.idxSlice 1 (.c (l_LB records)) (.c (.int .i64 s10.2))) = some (.elem ([(l_B x11)] ++ F_LB (records.drop (s10.2.toNat + 1)))) ∧ (Spec C 82 [(l_B s10.1), (l_I ([(x11.length : Int)]))] [] (l_B x12) [] ∧ (0 ≤ 0 ∧ (Spec C 83 [(l_B x11)] [] (l_B x13) [] ∧ (0 ≤ 0 ∧ (Spec C 81 [(l_LB ([x12, x13, x11]))] [] (l_B x14) [] ∧ (0 ≤ 0 ∧ lfe (rx_frame_Lay_L0 records) (.inl (x14, (IntKind.i64.wrap (s10.2 + 1)))) r)))))))) ∧ ((decide (s10.2 < (records.length : Int))) = false → lfe (rx_frame_Lay_L0 records) (.inr s10.1) r)) := fun C => by kernel_rfl
  refine runS_of (fun _ _ h => by cases h) WB23_0_ok (Nat.le_of_ble_eq_true rfl) ((e _).mpr ?_)
  unfold frame_Lay_L0_s at h
  refine ⟨fun hb => ?_, fun hb => ?_⟩
  · have h := cond_t hb h
    obtain ⟨q11, h⟩ := bget hx11 h
    refine ⟨wP_idx R_LB q11, ?_⟩
    obtain ⟨q12, h⟩ := bget hx12 h
    refine ⟨s_nums_Put (d + 0) q12, ?_⟩
    refine ⟨by decide, ?_⟩
    obtain ⟨q13, h⟩ := bget hx13 h
    refine ⟨s_frame_sum (d + 0) q13, ?_⟩
    refine ⟨by decide, ?_⟩
    obtain ⟨q14, h⟩ := bget hx14 h
    refine ⟨s_slices_Concat_byte_byte (d + 0) q14, ?_⟩
    refine ⟨by decide, ?_⟩
    exact lfe_of h
  · have h := cond_f hb h
    exact lfe_of h
theorem s_frame_Lay_L0 (d : Nat) {records : List (List UInt8)} {s10 : List UInt8 × Int} {r : (List UInt8)} (h : frame_Lay_L0 records s10 = some r) : RunX (bloop (bexec (wcalls atab (d + 2)) KK 29 WB23_0) [5, 10, 11, 12] KK) 0 (inL [5, 10, 11, 12] (st_frame_Lay_L0 records s10)) (fin_frame_Lay_L0 records r) :=
  loop_of (st := st_frame_Lay_L0 records) (fin := fin_frame_Lay_L0 records) (step := frame_Lay_L0_s records) (fun e => by (intro h; cases h)) (fun s x h => b_frame_Lay_L0 d h) KK s10 r h

def frame_Lay (p_b : List UInt8) (records : List (List UInt8)) : Option (List UInt8) :=
  gd (fitsB 1 p_b.length) ((frame_Lay_L0 records (p_b, 0)).bind fun (x15 : (List UInt8)) => some x15)
def out_frame_Lay (p_b : List UInt8) (records : List (List UInt8)) (r : List UInt8) : AV × WH := ((l_B r), [])

theorem s_frame_Lay (d : Nat) {p_b : List UInt8} {records : List (List UInt8)} {r : List UInt8} (h : frame_Lay p_b records = some r) : Spec (wcalls atab (d + 3)) 23 [(l_B p_b), (l_LB records)] [] (out_frame_Lay p_b records r).1 (out_frame_Lay p_b records r).2 := by
  obtain ⟨x15, hx15⟩ := wx (frame_Lay_L0 records (p_b, 0))
  have e : ∀ C : ACalls, wBody C wB KK WF23 [(l_B p_b), (l_LB records)] [] (.lp [(some false), none, none, none] [] [] (.exit 0) [(5, (l_B x15))] [] (.fin (some false) [] none)) (out_frame_Lay p_b records r).1 (out_frame_Lay p_b records r).2 = (2 = 2 ∧ 2 ≤ 29 ∧ (fitsB 1 p_b.length = true ∧ (RunS (bloop (bexec C KK 29 WB23_0) [5, 10, 11, 12] KK) 0 [(5, (l_B p_b)), (10, (l_LB records)), (11, (.int .i64 (records.length : Int))), (12, (.int .i64 0))] [] (.exit 0) [(5, (l_B x15))] [] ∧ lff (out_frame_Lay p_b records) x15 r))) := fun C => by kernel_rfl
  refine spec_of (wB_ok _) rfl atab_23 WF23_ok ((e _).mpr ⟨rfl, by decide, ?_⟩)
  unfold frame_Lay at h
  obtain ⟨q1, h⟩ := gd_some h
  refine ⟨q1, ?_⟩
  obtain ⟨q15, h⟩ := bget hx15 h
  refine ⟨s_frame_Lay_L0 (d + 0) q15, ?_⟩
  exact lff_of h

/- osmosis/nums.take$1 -/
def nums_take_1 (c : UInt8) : Option (Bool) :=
  some (((u8w (andI .u8 (c.toNat : Int) 128)).toNat : Int) == 0)
def out_nums_take_1 (c : UInt8) (r : Bool) : AV × WH := ((.bool r), [])

theorem s_nums_take_1 (d : Nat) {c : UInt8} {r : Bool} (h : nums_take_1 c = some r) : Spec (wcalls atab (d + 1)) 140 [(.int .u8 (c.toNat : Int))] [] (out_nums_take_1 c r).1 (out_nums_take_1 c r).2 := by
  have e : ∀ C : ACalls, wBody C (fun _ => none) KK WF140 [(.int .u8 (c.toNat : Int))] [] (.v 4 (.int .u8 ((u8w (andI .u8 (c.toNat : Int) 128)).toNat : Int)) (.fin (some false) [] none)) (out_nums_take_1 c r).1 (out_nums_take_1 c r).2 = (1 = 1 ∧ 1 ≤ 6 ∧ (@Eq (Option AV) (some (.int .u8 (andI .u8 (c.toNat : Int) 128))) (some (.int .u8 ((u8w (andI .u8 (c.toNat : Int) 128)).toNat : Int))) ∧ lff (out_nums_take_1 c) (((u8w (andI .u8 (c.toNat : Int) 128)).toNat : Int) == 0) r)) := fun C => by kernel_rfl
  refine spec_of (fun _ _ h => by cases h) rfl atab_140 WF140_ok ((e _).mpr ⟨rfl, by decide, ?_⟩)
  unfold nums_take_1 at h
  refine ⟨u8_of rfl, ?_⟩
  exact lff_of h

/- slices.IndexFunc[[]byte,byte] -/
def st_slices_IndexFunc_byte_byte_L0 (a0 : List UInt8) (s3 : Int) : List AV × WH := ([(l_B a0), (.func 140 []), (.int .i64 (a0.length : Int)), (.int .i64 s3)], [])
def fin_slices_IndexFunc_byte_byte_L0 (a0 : List UInt8) : Int ⊕ Unit → Ex × Fast × WH := fun
  | .inl e => (.ret, [(4, (.int .i64 e))], [])
  | .inr e => ((.exit 0), [], [])
abbrev rx_slices_IndexFunc_byte_byte_L0 (a0 : List UInt8) := roundX [0, 1, 7, 8] (st_slices_IndexFunc_byte_byte_L0 a0) (fin_slices_IndexFunc_byte_byte_L0 a0)
def slices_IndexFunc_byte_byte_L0_s (a0 : List UInt8) (s3 : Int) : Option ((Int) ⊕ (Int ⊕ Unit)) :=
  cond (decide (s3 < (a0.length : Int))) ((getI a0 s3).bind fun (x4 : UInt8) => (nums_take_1 x4).bind fun (x5 : Bool) => cond x5 (some (.inr (.inl s3))) (some (.inl (IntKind.i64.wrap (s3 + 1))))) (some (.inr (.inr ())))
def slices_IndexFunc_byte_byte_L0 (a0 : List UInt8) (s3 : Int) : Option (Int ⊕ Unit) := loopX (slices_IndexFunc_byte_byte_L0_s a0) KK s3
theorem b_slices_IndexFunc_byte_byte_L0 (d : Nat) {a0 : List UInt8} {s3 : Int} {r : (Int) ⊕ (Int ⊕ Unit)} (h : slices_IndexFunc_byte_byte_L0_s a0 s3 = some r) : RunX (bexec (wcalls atab (d + 1)) KK 19 WB139_0) 0 (inL [0, 1, 7, 8] (st_slices_IndexFunc_byte_byte_L0 a0 s3)) (rx_slices_IndexFunc_byte_byte_L0 a0 r) := by
  obtain ⟨x4, hx4⟩ := wx (getI a0 s3)
  obtain ⟨x5, hx5⟩ := wx (nums_take_1 x4)
  have e : ∀ C : ACalls, wCode C (fun _ => none) KK 19 0 WB139_0 (inL [0, 1, 7, 8] (st_slices_IndexFunc_byte_byte_L0 a0 s3)).1 (inL [0, 1, 7, 8] (st_slices_IndexFunc_byte_byte_L0 a0 s3)).2 (.br 9 (.v 14 (.elem ([(byteC x4)] ++ F_B (a0.drop (s3.toNat + 1)))) (.cb [] [] (.bool x5) (.br 16 (.en [4] [none] [] []) (.en [0, 1, 7, 8] [none, none, none, none] [] [])))) (.en [] [] [] [])) (rx_slices_IndexFunc_byte_byte_L0 a0 r) = (((decide (s3 < (a0.length : Int))) = true → (wP (.idxSlice 1 (.c (l_B a0)) (.c (.int .i64 s3))) = some (.elem ([(byteC x4)] ++ F_B (a0.drop (s3.toNat + 1)))) ∧ (Spec C 140 [(.int .u8 (x4.toNat : Int))] [] (.bool x5) [] ∧ ((x5 = true → lfe (rx_slices_IndexFunc_byte_byte_L0 a0) (.inr (.inl s3)) r) ∧ (x5 = false → lfe (rx_slices_IndexFunc_byte_byte_L0 a0) (.inl (IntKind.i64.wrap (s3 + 1))) r))))) ∧ ((decide (s3 < (a0.length : Int))) = false → lfe (rx_slices_IndexFunc_byte_byte_L0 a0) (.inr (.inr ())) r)) := fun C => by kernel_rfl
  refine runS_of (fun _ _ h => by cases h) WB139_0_ok (Nat.le_of_ble_eq_true rfl) ((e _).mpr ?_)
  unfold slices_IndexFunc_byte_byte_L0_s at h
  refine ⟨fun hb => ?_, fun hb => ?_⟩
  · have h := cond_t hb h
    obtain ⟨q4, h⟩ := bget hx4 h
    refine ⟨wP_idx R_B q4, ?_⟩
    obtain ⟨q5, h⟩ := bget hx5 h
    refine ⟨s_nums_take_1 (d + 0) q5, ?_⟩
    refine ⟨fun hb => ?_, fun hb => ?_⟩
    · have h := cond_t hb h
      exact lfe_of h
    · have h := cond_f hb h
      exact lfe_of h
  · have h := cond_f hb h
    exact lfe_of h
theorem s_slices_IndexFunc_byte_byte_L0 (d : Nat) {a0 : List UInt8} {s3 : Int} {r : Int ⊕ Unit} (h : slices_IndexFunc_byte_byte_L0 a0 s3 = some r) : RunX (bloop (bexec (wcalls atab (d + 1)) KK 19 WB139_0) [0, 1, 7, 8] KK) 0 (inL [0, 1, 7, 8] (st_slices_IndexFunc_byte_byte_L0 a0 s3)) (fin_slices_IndexFunc_byte_byte_L0 a0 r) :=
  loop_of (st := st_slices_IndexFunc_byte_byte_L0 a0) (fin := fin_slices_IndexFunc_byte_byte_L0 a0) (step := slices_IndexFunc_byte_byte_L0_s a0) (fun e => by rcases e with e | e <;> (intro h; cases h)) (fun s x h => b_slices_IndexFunc_byte_byte_L0 d h) KK s3 r h

def slices_IndexFunc_byte_byte (a0 : List UInt8) : Option (Int) :=
  (slices_IndexFunc_byte_byte_L0 a0 0).bind fun (x6 : Int ⊕ Unit) => cond (isL x6) (some (getL x6)) (some (-1))
def out_slices_IndexFunc_byte_byte (a0 : List UInt8) (r : Int) : AV × WH := ((.int .i64 r), [])

theorem s_slices_IndexFunc_byte_byte (d : Nat) {a0 : List UInt8} {r : Int} (h : slices_IndexFunc_byte_byte a0 = some r) : Spec (wcalls atab (d + 2)) 139 [(l_B a0), (.func 140 [])] [] (out_slices_IndexFunc_byte_byte a0 r).1 (out_slices_IndexFunc_byte_byte a0 r).2 := by
  obtain ⟨x6, hx6⟩ := wx (slices_IndexFunc_byte_byte_L0 a0 0)
  have e : ∀ C : ACalls, wBody C (fun _ => none) KK WF139 [(l_B a0), (.func 140 [])] [] (.ite (isL x6) (.lp [none, none, none, none] [] [] .ret [(4, (.int .i64 (getL x6)))] [] (.fin (some false) [] none)) (.lp [none, none, none, none] [] [] (.exit 0) [] [] (.fin (some false) [] none))) (out_slices_IndexFunc_byte_byte a0 r).1 (out_slices_IndexFunc_byte_byte a0 r).2 = (2 = 2 ∧ 2 ≤ 19 ∧ (((isL x6) = true → (RunS (bloop (bexec C KK 19 WB139_0) [0, 1, 7, 8] KK) 0 [(0, (l_B a0)), (1, (.func 140 [])), (7, (.int .i64 (a0.length : Int))), (8, (.int .i64 0))] [] .ret [(4, (.int .i64 (getL x6)))] [] ∧ lff (out_slices_IndexFunc_byte_byte a0) (getL x6) r)) ∧ ((isL x6) = false → (RunS (bloop (bexec C KK 19 WB139_0) [0, 1, 7, 8] KK) 0 [(0, (l_B a0)), (1, (.func 140 [])), (7, (.int .i64 (a0.length : Int))), (8, (.int .i64 0))] [] (.exit 0) [] [] ∧ lff (out_slices_IndexFunc_byte_byte a0) (-1) r)))) := fun C => by kernel_rfl
  refine spec_of (fun _ _ h => by cases h) rfl atab_139 WF139_ok ((e _).mpr ⟨rfl, by decide, ?_⟩)
  unfold slices_IndexFunc_byte_byte at h
  obtain ⟨q6, h⟩ := bget hx6 h
  refine ⟨fun hb7 => ?_, fun hb7 => ?_⟩
  · have h := cond_t hb7 h
    refine ⟨by have h := s_slices_IndexFunc_byte_byte_L0 (d + 0) q6; rw [isL_t hb7] at h; exact h, ?_⟩
    exact lff_of h
  · have h := cond_f hb7 h
    refine ⟨by have h := s_slices_IndexFunc_byte_byte_L0 (d + 0) q6; rw [isL_f hb7] at h; exact h, ?_⟩
    exact lff_of h

/- osmosis/nums.take -/
abbrev in_nums_take_J0 (x1 : Int) (p_b : List UInt8) : Fast × WH := ([(0, (l_B p_b)), (2, (.int .i64 0)), (5, (.int .i64 x1))], [])
def fin_nums_take_J0 (x1 : Int) (p_b : List UInt8) : Unit ⊕ Unit → Ex × Fast × WH := fun
  | .inl e => (.ret, [(2, (.int .i64 0)), (3, (.int .i64 0)), (4, (.int .i64 2))], [])
  | .inr e => (.normal, [(0, (l_B p_b)), (2, (.int .i64 0)), (5, (.int .i64 x1))], [])
def nums_take_J0 (x1 : Int) (p_b : List UInt8) : Option (Unit ⊕ Unit) :=
  cond (decide (x1 ≥ 9)) (some (.inl ())) (cond (decide (x1 > 0)) ((getI p_b x1).bind fun (x2 : UInt8) => cond ((x2.toNat : Int) == 0) (some (.inl ())) (some (.inr ()))) (some (.inr ())))
theorem s_nums_take_J0 (d : Nat) {x1 : Int} {p_b : List UInt8} {r : Unit ⊕ Unit} (h : nums_take_J0 x1 p_b = some r) : RunX (bexec (wcalls atab (d + 0)) KK 47 WJ133_bbba) 0 (in_nums_take_J0 x1 p_b) (fin_nums_take_J0 x1 p_b r) := by
  obtain ⟨x2, hx2⟩ := wx (getI p_b x1)
  have e : ∀ C : ACalls, wCode C (fun _ => none) KK 47 0 WJ133_bbba (in_nums_take_J0 x1 p_b).1 (in_nums_take_J0 x1 p_b).2 (.br 13 (.en [2, 3, 4] [none, none, none] [] []) (.br 16 (.v 19 (.elem ([(byteC x2)] ++ F_B (p_b.drop (x1.toNat + 1)))) (.br 23 (.en [2, 3, 4] [none, none, none] [] []) (.en [0, 2, 5] [none, none, none] [] []))) (.en [0, 2, 5] [none, none, none] [] []))) (fin_nums_take_J0 x1 p_b r) = (((decide (x1 ≥ 9)) = true → lfe (fin_nums_take_J0 x1 p_b) (.inl ()) r) ∧ ((decide (x1 ≥ 9)) = false → (((decide (x1 > 0)) = true → (wP (.idxSlice 1 (.c (l_B p_b)) (.c (.int .i64 x1))) = some (.elem ([(byteC x2)] ++ F_B (p_b.drop (x1.toNat + 1)))) ∧ ((((x2.toNat : Int) == 0) = true → lfe (fin_nums_take_J0 x1 p_b) (.inl ()) r) ∧ (((x2.toNat : Int) == 0) = false → lfe (fin_nums_take_J0 x1 p_b) (.inr ()) r)))) ∧ ((decide (x1 > 0)) = false → lfe (fin_nums_take_J0 x1 p_b) (.inr ()) r)))) := fun C => by kernel_rfl
  refine runS_of (fun _ _ h => by cases h) WJ133_bbba_ok (Nat.le_of_ble_eq_true rfl) ((e _).mpr ?_)
  unfold nums_take_J0 at h
  refine ⟨fun hb => ?_, fun hb => ?_⟩
  · have h := cond_t hb h
    exact lfe_of h
  · have h := cond_f hb h
    refine ⟨fun hb => ?_, fun hb => ?_⟩
    · have h := cond_t hb h
      obtain ⟨q2, h⟩ := bget hx2 h
      refine ⟨wP_idx R_B q2, ?_⟩
      refine ⟨fun hb => ?_, fun hb => ?_⟩
      · have h := cond_t hb h
        exact lfe_of h
      · have h := cond_f hb h
        exact lfe_of h
    · have h := cond_f hb h
      exact lfe_of h

def st_nums_take_L1 (p_b : List UInt8) (x1 : Int) (s6 : Int × Int) : List AV × WH := ([(l_B p_b), (.int .i64 s6.1), (.int .i64 x1), (.int .i64 s6.2)], [])
def fin_nums_take_L1 (p_b : List UInt8) (x1 : Int) : Int → Ex × Fast × WH := fun e => ((.exit 0), [(2, (.int .i64 e)), (5, (.int .i64 x1))], [])
abbrev rx_nums_take_L1 (p_b : List UInt8) (x1 : Int) := roundX [0, 2, 5, 6] (st_nums_take_L1 p_b x1) (fin_nums_take_L1 p_b x1)
def nums_take_L1_s (p_b : List UInt8) (x1 : Int) (s6 : Int × Int) : Option ((Int × Int) ⊕ (Int)) :=
  cond (decide (s6.2 ≥ 0)) ((getI p_b s6.2).bind fun (x7 : UInt8) => some (.inl ((orI .i64 (shlV .i64 s6.1 7) (IntKind.i64.wrap ((u8w (andI .u8 (x7.toNat : Int) 127)).toNat : Int))), (IntKind.i64.wrap (s6.2 - 1))))) (some (.inr s6.1))
def nums_take_L1 (p_b : List UInt8) (x1 : Int) (s6 : Int × Int) : Option (Int) := loopX (nums_take_L1_s p_b x1) KK s6
theorem b_nums_take_L1 (d : Nat) {p_b : List UInt8} {x1 : Int} {s6 : Int × Int} {r : (Int × Int) ⊕ (Int)} (h : nums_take_L1_s p_b x1 s6 = some r) : RunX (bexec (wcalls atab (d + 0)) KK 47 WB133_0) 0 (inL [0, 2, 5, 6] (st_nums_take_L1 p_b x1 s6)) (rx_nums_take_L1 p_b x1 r) := by
  obtain ⟨x7, hx7⟩ := wx (getI p_b s6.2)
  have e : ∀ C : ACalls, wCode C (fun _ => none) KK 47 0 WB133_0 (inL [0, 2, 5, 6] (st_nums_take_L1 p_b x1 s6)).1 (inL [0, 2, 5, 6] (st_nums_take_L1 p_b x1 s6)).2 (.br 26 (.v 33 (.elem ([(byteC x7)] ++ F_B (p_b.drop (s6.2.toNat + 1)))) (.v 35 (.int .u8 ((u8w (andI .u8 (x7.toNat : Int) 127)).toNat : Int)) (.en [0, 2, 5, 6] [none, none, none, none] [] []))) (.en [2, 5] [none, none] [] [])) (rx_nums_take_L1 p_b x1 r) = (((decide (s6.2 ≥ 0)) = true → (wP (.idxSlice 1 (.c (l_B p_b)) (.c (.int .i64 s6.2))) = some (.elem ([(byteC x7)] ++ F_B (p_b.drop (s6.2.toNat + 1)))) ∧ (@Eq (Option AV) (some (.int .u8 (andI .u8 (x7.toNat : Int) 127))) (some (.int .u8 ((u8w (andI .u8 (x7.toNat : Int) 127)).toNat : Int))) ∧ lfe (rx_nums_take_L1 p_b x1) (.inl ((orI .i64 (shlV .i64 s6.1 7) (IntKind.i64.wrap ((u8w (andI .u8 (x7.toNat : Int) 127)).toNat : Int))), (IntKind.i64.wrap (s6.2 - 1)))) r))) ∧ ((decide (s6.2 ≥ 0)) = false → lfe (rx_nums_take_L1 p_b x1) (.inr s6.1) r)) := fun C => by kernel_rfl
  refine runS_of (fun _ _ h => by cases h) WB133_0_ok (Nat.le_of_ble_eq_true rfl) ((e _).mpr ?_)
  unfold nums_take_L1_s at h
  refine ⟨fun hb => ?_, fun hb => ?_⟩
  · have h := cond_t hb h
    obtain ⟨q7, h⟩ := bget hx7 h
    refine ⟨wP_idx R_B q7, ?_⟩
    refine ⟨u8_of rfl, ?_⟩
    exact lfe_of h
  · have h := cond_f hb h
    exact lfe_of h
theorem s_nums_take_L1 (d : Nat) {p_b : List UInt8} {x1 : Int} {s6 : Int × Int} {r : Int} (h : nums_take_L1 p_b x1 s6 = some r) : RunX (bloop (bexec (wcalls atab (d + 0)) KK 47 WB133_0) [0, 2, 5, 6] KK) 0 (inL [0, 2, 5, 6] (st_nums_take_L1 p_b x1 s6)) (fin_nums_take_L1 p_b x1 r) :=
  loop_of (st := st_nums_take_L1 p_b x1) (fin := fin_nums_take_L1 p_b x1) (step := nums_take_L1_s p_b x1) (fun e => by (intro h; cases h)) (fun s x h => b_nums_take_L1 d h) KK s6 r h

abbrev in_nums_take_J2 (x8 : Int) (x1 : Int) : Fast × WH := ([(2, (.int .i64 x8)), (5, (.int .i64 x1))], [])
def fin_nums_take_J2 (x8 : Int) (x1 : Int) : Unit ⊕ Unit → Ex × Fast × WH := fun
  | .inl e => (.ret, [(2, (.int .i64 0)), (3, (.int .i64 0)), (4, (.int .i64 2))], [])
  | .inr e => (.normal, [(2, (.int .i64 x8)), (5, (.int .i64 x1))], [])
def nums_take_J2 (x8 : Int) (x1 : Int) : Option (Unit ⊕ Unit) :=
  cond (decide (x8 < 0)) (some (.inl ())) (cond (decide (x8 > 4611686018427387903)) (some (.inl ())) (some (.inr ())))
theorem s_nums_take_J2 (d : Nat) {x8 : Int} {x1 : Int} {r : Unit ⊕ Unit} (h : nums_take_J2 x8 x1 = some r) : RunX (bexec (wcalls atab (d + 0)) KK 47 WJ133_bbbbba) 0 (in_nums_take_J2 x8 x1) (fin_nums_take_J2 x8 x1 r) := by
  have e : ∀ C : ACalls, wCode C (fun _ => none) KK 47 0 WJ133_bbbbba (in_nums_take_J2 x8 x1).1 (in_nums_take_J2 x8 x1).2 (.br 40 (.en [2, 3, 4] [none, none, none] [] []) (.br 43 (.en [2, 3, 4] [none, none, none] [] []) (.en [2, 5] [none, none] [] []))) (fin_nums_take_J2 x8 x1 r) = (((decide (x8 < 0)) = true → lfe (fin_nums_take_J2 x8 x1) (.inl ()) r) ∧ ((decide (x8 < 0)) = false → (((decide (x8 > 4611686018427387903)) = true → lfe (fin_nums_take_J2 x8 x1) (.inl ()) r) ∧ ((decide (x8 > 4611686018427387903)) = false → lfe (fin_nums_take_J2 x8 x1) (.inr ()) r)))) := fun C => by kernel_rfl
  refine runS_of (fun _ _ h => by cases h) WJ133_bbbbba_ok (Nat.le_of_ble_eq_true rfl) ((e _).mpr ?_)
  unfold nums_take_J2 at h
  refine ⟨fun hb => ?_, fun hb => ?_⟩
  · have h := cond_t hb h
    exact lfe_of h
  · have h := cond_f hb h
    refine ⟨fun hb => ?_, fun hb => ?_⟩
    · have h := cond_t hb h
      exact lfe_of h
    · have h := cond_f hb h
      exact lfe_of h

def nums_take (p_b : List UInt8) : Option (Int × Int × Int) :=
  (slices_IndexFunc_byte_byte p_b).bind fun (x1 : Int) => cond (decide (x1 < 0)) (some (0, 0, 3)) ((nums_take_J0 x1 p_b).bind fun (x3 : Unit ⊕ Unit) => cond (isL x3) (some (0, 0, 2)) ((nums_take_L1 p_b x1 (0, x1)).bind fun (x8 : Int) => (nums_take_J2 x8 x1).bind fun (x9 : Unit ⊕ Unit) => cond (isL x9) (some (0, 0, 2)) (some (x8, (IntKind.i64.wrap (x1 + 1)), 0))))
def out_nums_take (p_b : List UInt8) (r : Int × Int × Int) : AV × WH := ((.tuple [(.int .i64 r.1), (.int .i64 r.2.1), (.int .i64 r.2.2)]), [])

theorem s_nums_take (d : Nat) {p_b : List UInt8} {r : Int × Int × Int} (h : nums_take p_b = some r) : Spec (wcalls atab (d + 3)) 133 [(l_B p_b)] [] (out_nums_take p_b r).1 (out_nums_take p_b r).2 := by
  obtain ⟨x1, hx1⟩ := wx (slices_IndexFunc_byte_byte p_b)
  obtain ⟨x3, hx3⟩ := wx (nums_take_J0 x1 p_b)
  obtain ⟨x8, hx8⟩ := wx (nums_take_L1 p_b x1 (0, x1))
  obtain ⟨x9, hx9⟩ := wx (nums_take_J2 x8 x1)
  have e : ∀ C : ACalls, wBody C (fun _ => none) KK WF133 [(l_B p_b)] [] (.cb [] [] (.int .i64 x1) (.br 10 (.fin (some false) [] none) (.ite (isL x3) (.jn [0, 2, 5] [none, none, none] [] [] .ret [(2, (.int .i64 0)), (3, (.int .i64 0)), (4, (.int .i64 2))] [] (.fin (some false) [] none)) (.jn [0, 2, 5] [none, none, none] [] [] .normal [(0, (l_B p_b)), (2, (.int .i64 0)), (5, (.int .i64 x1))] [] (.lp [none, none, none, none] [] [] (.exit 0) [(2, (.int .i64 x8)), (5, (.int .i64 x1))] [] (.ite (isL x9) (.jn [2, 5] [none, none] [] [] .ret [(2, (.int .i64 0)), (3, (.int .i64 0)), (4, (.int .i64 2))] [] (.fin (some false) [] none)) (.jn [2, 5] [none, none] [] [] .normal [(2, (.int .i64 x8)), (5, (.int .i64 x1))] [] (.fin (some false) [] none)))))))) (out_nums_take p_b r).1 (out_nums_take p_b r).2 = (1 = 1 ∧ 1 ≤ 47 ∧ (Spec C 139 [(l_B p_b), (.func 140 [])] [] (.int .i64 x1) [] ∧ (((decide (x1 < 0)) = true → lff (out_nums_take p_b) (0, 0, 3) r) ∧ ((decide (x1 < 0)) = false → (((isL x3) = true → (RunS (bexec C KK 47 WJ133_bbba) 0 [(0, (l_B p_b)), (2, (.int .i64 0)), (5, (.int .i64 x1))] [] .ret [(2, (.int .i64 0)), (3, (.int .i64 0)), (4, (.int .i64 2))] [] ∧ lff (out_nums_take p_b) (0, 0, 2) r)) ∧ ((isL x3) = false → (RunS (bexec C KK 47 WJ133_bbba) 0 [(0, (l_B p_b)), (2, (.int .i64 0)), (5, (.int .i64 x1))] [] .normal [(0, (l_B p_b)), (2, (.int .i64 0)), (5, (.int .i64 x1))] [] ∧ (RunS (bloop (bexec C KK 47 WB133_0) [0, 2, 5, 6] KK) 0 [(0, (l_B p_b)), (2, (.int .i64 0)), (5, (.int .i64 x1)), (6, (.int .i64 x1))] [] (.exit 0) [(2, (.int .i64 x8)), (5, (.int .i64 x1))] [] ∧ (((isL x9) = true → (RunS (bexec C KK 47 WJ133_bbbbba) 0 [(2, (.int .i64 x8)), (5, (.int .i64 x1))] [] .ret [(2, (.int .i64 0)), (3, (.int .i64 0)), (4, (.int .i64 2))] [] ∧ lff (out_nums_take p_b) (0, 0, 2) r)) ∧ ((isL x9) = false → (RunS (bexec C KK 47 WJ133_bbbbba) 0 [(2, (.int .i64 x8)), (5, (.int .i64 x1))] [] .normal [(2, (.int .i64 x8)), (5, (.int .i64 x1))] [] ∧ lff (out_nums_take p_b) (x8, (IntKind.i64.wrap (x1 + 1)), 0) r))))))))))) := fun C => by kernel_rfl
  refine spec_of (fun _ _ h => by cases h) rfl atab_133 WF133_ok ((e _).mpr ⟨rfl, by decide, ?_⟩)
  unfold nums_take at h
  obtain ⟨q1, h⟩ := bget hx1 h
  refine ⟨s_slices_IndexFunc_byte_byte (d + 0) q1, ?_⟩
  refine ⟨fun hb => ?_, fun hb => ?_⟩
  · have h := cond_t hb h
    exact lff_of h
  · have h := cond_f hb h
    obtain ⟨q3, h⟩ := bget hx3 h
    refine ⟨fun hb4 => ?_, fun hb4 => ?_⟩
    · have h := cond_t hb4 h
      refine ⟨by have h := s_nums_take_J0 (d + 2) q3; rw [isL_t hb4] at h; exact h, ?_⟩
      exact lff_of h
    · have h := cond_f hb4 h
      refine ⟨by have h := s_nums_take_J0 (d + 2) q3; rw [isL_f hb4] at h; exact h, ?_⟩
      obtain ⟨q8, h⟩ := bget hx8 h
      refine ⟨s_nums_take_L1 (d + 2) q8, ?_⟩
      obtain ⟨q9, h⟩ := bget hx9 h
      refine ⟨fun hb10 => ?_, fun hb10 => ?_⟩
      · have h := cond_t hb10 h
        refine ⟨by have h := s_nums_take_J2 (d + 2) q9; rw [isL_t hb10] at h; exact h, ?_⟩
        exact lff_of h
      · have h := cond_f hb10 h
        refine ⟨by have h := s_nums_take_J2 (d + 2) q9; rw [isL_f hb10] at h; exact h, ?_⟩
        exact lff_of h

/- osmosis/nums.own -/
def nums_own (p_b : List UInt8) : Option (List UInt8) :=
  gd (fitsB 1 p_b.length) (some p_b)
def out_nums_own (p_b : List UInt8) (r : List UInt8) : AV × WH := ((l_B r), [])

theorem s_nums_own (d : Nat) {p_b : List UInt8} {r : List UInt8} (h : nums_own p_b = some r) : Spec (wcalls atab (d + 2)) 134 [(l_B p_b)] [] (out_nums_own p_b r).1 (out_nums_own p_b r).2 := by
  have e : ∀ C : ACalls, wBody C wB KK WF134 [(l_B p_b)] [] (.fin (some false) [] none) (out_nums_own p_b r).1 (out_nums_own p_b r).2 = (1 = 1 ∧ 1 ≤ 6 ∧ (fitsB 1 p_b.length = true ∧ lff (out_nums_own p_b) p_b r)) := fun C => by kernel_rfl
  refine spec_of (wB_ok _) rfl atab_134 WF134_ok ((e _).mpr ⟨rfl, by decide, ?_⟩)
  unfold nums_own at h
  obtain ⟨q1, h⟩ := gd_some h
  refine ⟨q1, ?_⟩
  exact lff_of h

/- osmosis/nums.Take -/
def nums_Take (p_b : List UInt8) : Option (Int × List UInt8 × Int) :=
  (nums_take p_b).bind fun (x1 : Int × Int × Int) => cond (x1.2.2 != 0) (some (0, [], x1.2.2)) ((slI p_b x1.2.1 p_b.length).bind fun (x2 : List UInt8) => (nums_own x2).bind fun (x3 : List UInt8) => some (x1.1, x3, 0))
def out_nums_Take (p_b : List UInt8) (r : Int × List UInt8 × Int) : AV × WH := ((.tuple [(.int .i64 r.1), (l_B r.2.1), (.int .i64 r.2.2)]), [])

theorem s_nums_Take (d : Nat) {p_b : List UInt8} {r : Int × List UInt8 × Int} (h : nums_Take p_b = some r) : Spec (wcalls atab (d + 4)) 119 [(l_B p_b)] [] (out_nums_Take p_b r).1 (out_nums_Take p_b r).2 := by
  obtain ⟨x1, hx1⟩ := wx (nums_take p_b)
  obtain ⟨x2, hx2⟩ := wx (slI p_b x1.2.1 p_b.length)
  obtain ⟨x3, hx3⟩ := wx (nums_own x2)
  have e : ∀ C : ACalls, wBody C (fun _ => none) KK WF119 [(l_B p_b)] [] (.cb [] [] (.tuple [(.int .i64 x1.1), (.int .i64 x1.2.1), (.int .i64 x1.2.2)]) (.br 13 (.fin (some false) [] none) (.v 18 (l_B x2) (.call [] (some false) [] (l_B x3) [] (.fin (some false) [] none))))) (out_nums_Take p_b r).1 (out_nums_Take p_b r).2 = (1 = 1 ∧ 1 ≤ 20 ∧ (Spec C 133 [(l_B p_b)] [] (.tuple [(.int .i64 x1.1), (.int .i64 x1.2.1), (.int .i64 x1.2.2)]) [] ∧ (((x1.2.2 != 0) = true → lff (out_nums_Take p_b) (0, [], x1.2.2) r) ∧ ((x1.2.2 != 0) = false → (wP (.slice 1 (.c (l_B p_b)) (some (.c (.int .i64 x1.2.1))) none none) = some (l_B x2) ∧ (Spec C 134 [(l_B x2)] [] (l_B x3) [] ∧ (0 ≤ 0 ∧ lff (out_nums_Take p_b) (x1.1, x3, 0) r))))))) := fun C => by kernel_rfl
  refine spec_of (fun _ _ h => by cases h) rfl atab_119 WF119_ok ((e _).mpr ⟨rfl, by decide, ?_⟩)
  unfold nums_Take at h
  obtain ⟨q1, h⟩ := bget hx1 h
  refine ⟨s_nums_take (d + 0) q1, ?_⟩
  refine ⟨fun hb => ?_, fun hb => ?_⟩
  · have h := cond_t hb h
    exact lff_of h
  · have h := cond_f hb h
    obtain ⟨q2, h⟩ := bget hx2 h
    refine ⟨wP_sl_l R_B q2, ?_⟩
    obtain ⟨q3, h⟩ := bget hx3 h
    refine ⟨s_nums_own (d + 1) q3, ?_⟩
    refine ⟨by decide, ?_⟩
    exact lff_of h

/- slices.Equal[[]byte,byte] -/
def st_slices_Equal_byte_byte_L0 (a0 : List UInt8) (a1 : List UInt8) (s3 : Int) : List AV × WH := ([(l_B a0), (l_B a1), (.int .i64 (a0.length : Int)), (.int .i64 s3)], [])
def fin_slices_Equal_byte_byte_L0 (a0 : List UInt8) (a1 : List UInt8) : Unit ⊕ Unit → Ex × Fast × WH := fun
  | .inl e => (.ret, [(4, (.bool false))], [])
  | .inr e => ((.exit 0), [], [])
abbrev rx_slices_Equal_byte_byte_L0 (a0 : List UInt8) (a1 : List UInt8) := roundX [0, 1, 12, 13] (st_slices_Equal_byte_byte_L0 a0 a1) (fin_slices_Equal_byte_byte_L0 a0 a1)
def slices_Equal_byte_byte_L0_s (a0 : List UInt8) (a1 : List UInt8) (s3 : Int) : Option ((Int) ⊕ (Unit ⊕ Unit)) :=
  cond (decide (s3 < (a0.length : Int))) ((getI a0 s3).bind fun (x4 : UInt8) => (getI a1 s3).bind fun (x5 : UInt8) => cond ((x4.toNat : Int) != (x5.toNat : Int)) (some (.inr (.inl ()))) (some (.inl (IntKind.i64.wrap (s3 + 1))))) (some (.inr (.inr ())))
def slices_Equal_byte_byte_L0 (a0 : List UInt8) (a1 : List UInt8) (s3 : Int) : Option (Unit ⊕ Unit) := loopX (slices_Equal_byte_byte_L0_s a0 a1) KK s3
theorem b_slices_Equal_byte_byte_L0 (d : Nat) {a0 : List UInt8} {a1 : List UInt8} {s3 : Int} {r : (Int) ⊕ (Unit ⊕ Unit)} (h : slices_Equal_byte_byte_L0_s a0 a1 s3 = some r) : RunX (bexec (wcalls atab (d + 0)) KK 26 WB120_0) 0 (inL [0, 1, 12, 13] (st_slices_Equal_byte_byte_L0 a0 a1 s3)) (rx_slices_Equal_byte_byte_L0 a0 a1 r) := by
  obtain ⟨x4, hx4⟩ := wx (getI a0 s3)
  obtain ⟨x5, hx5⟩ := wx (getI a1 s3)
  have e : ∀ C : ACalls, wCode C (fun _ => none) KK 26 0 WB120_0 (inL [0, 1, 12, 13] (st_slices_Equal_byte_byte_L0 a0 a1 s3)).1 (inL [0, 1, 12, 13] (st_slices_Equal_byte_byte_L0 a0 a1 s3)).2 (.br 14 (.v 18 (.elem ([(byteC x4)] ++ F_B (a0.drop (s3.toNat + 1)))) (.v 22 (.elem ([(byteC x5)] ++ F_B (a1.drop (s3.toNat + 1)))) (.br 24 (.en [4] [none] [] []) (.en [0, 1, 12, 13] [none, none, none, none] [] [])))) (.en [] [] [] [])) (rx_slices_Equal_byte_byte_L0 a0 a1 r) = (((decide (s3 < (a0.length : Int))) = true → (wP (.idxSlice 1 (.c (l_B a0)) (.c (.int .i64 s3))) = some (.elem ([(byteC x4)] ++ F_B (a0.drop (s3.toNat + 1)))) ∧ (wP (.idxSlice 1 (.c (l_B a1)) (.c (.int .i64 s3))) = some (.elem ([(byteC x5)] ++ F_B (a1.drop (s3.toNat + 1)))) ∧ ((((x4.toNat : Int) != (x5.toNat : Int)) = true → lfe (rx_slices_Equal_byte_byte_L0 a0 a1) (.inr (.inl ())) r) ∧ (((x4.toNat : Int) != (x5.toNat : Int)) = false → lfe (rx_slices_Equal_byte_byte_L0 a0 a1) (.inl (IntKind.i64.wrap (s3 + 1))) r))))) ∧ ((decide (s3 < (a0.length : Int))) = false → lfe (rx_slices_Equal_byte_byte_L0 a0 a1) (.inr (.inr ())) r)) := fun C => by kernel_rfl
  refine runS_of (fun _ _ h => by cases h) WB120_0_ok (Nat.le_of_ble_eq_true rfl) ((e _).mpr ?_)
  unfold slices_Equal_byte_byte_L0_s at h
  refine ⟨fun hb => ?_, fun hb => ?_⟩
  · have h := cond_t hb h
    obtain ⟨q4, h⟩ := bget hx4 h
    refine ⟨wP_idx R_B q4, ?_⟩
    obtain ⟨q5, h⟩ := bget hx5 h
    refine ⟨wP_idx R_B q5, ?_⟩
    refine ⟨fun hb => ?_, fun hb => ?_⟩
    · have h := cond_t hb h
      exact lfe_of h
    · have h := cond_f hb h
      exact lfe_of h
  · have h := cond_f hb h
    exact lfe_of h
theorem s_slices_Equal_byte_byte_L0 (d : Nat) {a0 : List UInt8} {a1 : List UInt8} {s3 : Int} {r : Unit ⊕ Unit} (h : slices_Equal_byte_byte_L0 a0 a1 s3 = some r) : RunX (bloop (bexec (wcalls atab (d + 0)) KK 26 WB120_0) [0, 1, 12, 13] KK) 0 (inL [0, 1, 12, 13] (st_slices_Equal_byte_byte_L0 a0 a1 s3)) (fin_slices_Equal_byte_byte_L0 a0 a1 r) :=
  loop_of (st := st_slices_Equal_byte_byte_L0 a0 a1) (fin := fin_slices_Equal_byte_byte_L0 a0 a1) (step := slices_Equal_byte_byte_L0_s a0 a1) (fun e => by rcases e with e | e <;> (intro h; cases h)) (fun s x h => b_slices_Equal_byte_byte_L0 d h) KK s3 r h

def slices_Equal_byte_byte (a0 : List UInt8) (a1 : List UInt8) : Option (Bool) :=
  cond ((a0.length : Int) != (a1.length : Int)) (some false) ((slices_Equal_byte_byte_L0 a0 a1 0).bind fun (x6 : Unit ⊕ Unit) => cond (isL x6) (some false) (some true))
def out_slices_Equal_byte_byte (a0 : List UInt8) (a1 : List UInt8) (r : Bool) : AV × WH := ((.bool r), [])

theorem s_slices_Equal_byte_byte (d : Nat) {a0 : List UInt8} {a1 : List UInt8} {r : Bool} (h : slices_Equal_byte_byte a0 a1 = some r) : Spec (wcalls atab (d + 1)) 120 [(l_B a0), (l_B a1)] [] (out_slices_Equal_byte_byte a0 a1 r).1 (out_slices_Equal_byte_byte a0 a1 r).2 := by
  obtain ⟨x6, hx6⟩ := wx (slices_Equal_byte_byte_L0 a0 a1 0)
  have e : ∀ C : ACalls, wBody C (fun _ => none) KK WF120 [(l_B a0), (l_B a1)] [] (.br 10 (.fin (some false) [] none) (.ite (isL x6) (.lp [none, none, none, none] [] [] .ret [(4, (.bool false))] [] (.fin (some false) [] none)) (.lp [none, none, none, none] [] [] (.exit 0) [] [] (.fin (some false) [] none)))) (out_slices_Equal_byte_byte a0 a1 r).1 (out_slices_Equal_byte_byte a0 a1 r).2 = (2 = 2 ∧ 2 ≤ 26 ∧ ((((a0.length : Int) != (a1.length : Int)) = true → lff (out_slices_Equal_byte_byte a0 a1) false r) ∧ (((a0.length : Int) != (a1.length : Int)) = false → (((isL x6) = true → (RunS (bloop (bexec C KK 26 WB120_0) [0, 1, 12, 13] KK) 0 [(0, (l_B a0)), (1, (l_B a1)), (12, (.int .i64 (a0.length : Int))), (13, (.int .i64 0))] [] .ret [(4, (.bool false))] [] ∧ lff (out_slices_Equal_byte_byte a0 a1) false r)) ∧ ((isL x6) = false → (RunS (bloop (bexec C KK 26 WB120_0) [0, 1, 12, 13] KK) 0 [(0, (l_B a0)), (1, (l_B a1)), (12, (.int .i64 (a0.length : Int))), (13, (.int .i64 0))] [] (.exit 0) [] [] ∧ lff (out_slices_Equal_byte_byte a0 a1) true r)))))) := fun C => by kernel_rfl
  refine spec_of (fun _ _ h => by cases h) rfl atab_120 WF120_ok ((e _).mpr ⟨rfl, by decide, ?_⟩)
  unfold slices_Equal_byte_byte at h
  refine ⟨fun hb => ?_, fun hb => ?_⟩
  · have h := cond_t hb h
    exact lff_of h
  · have h := cond_f hb h
    obtain ⟨q6, h⟩ := bget hx6 h
    refine ⟨fun hb7 => ?_, fun hb7 => ?_⟩
    · have h := cond_t hb7 h
      refine ⟨by have h := s_slices_Equal_byte_byte_L0 (d + 0) q6; rw [isL_t hb7] at h; exact h, ?_⟩
      exact lff_of h
    · have h := cond_f hb7 h
      refine ⟨by have h := s_slices_Equal_byte_byte_L0 (d + 0) q6; rw [isL_f hb7] at h; exact h, ?_⟩
      exact lff_of h

/- osmosis/frame.one -/
abbrev in_frame_one_J0 (x2 : Int × List UInt8 × Int) (p_b : List UInt8) (x3 : List UInt8) : Fast × WH := ([(0, (l_B p_b)), (5, (.int .i64 x2.1)), (7, (.int .i64 x2.2.2)), (8, (.int .i64 (IntKind.i64.wrap ((IntKind.i64.wrap ((x3.length : Int) - (x2.2.1.length : Int))) + 8))))], [])
def fin_frame_one_J0 (x2 : Int × List UInt8 × Int) (p_b : List UInt8) (x3 : List UInt8) : Unit ⊕ Unit → Ex × Fast × WH := fun
  | .inl e => (.ret, [(2, (.slice none 1 0 0 true)), (3, (.int .i64 0)), (4, (.bool false))], [])
  | .inr e => (.normal, [(0, (l_B p_b)), (5, (.int .i64 x2.1)), (8, (.int .i64 (IntKind.i64.wrap ((IntKind.i64.wrap ((x3.length : Int) - (x2.2.1.length : Int))) + 8))))], [])
def frame_one_J0 (x2 : Int × List UInt8 × Int) (p_b : List UInt8) (x3 : List UInt8) : Option (Unit ⊕ Unit) :=
  cond (x2.2.2 != 0) (some (.inl ())) (cond (decide (x2.1 > 4000)) (some (.inl ())) (cond (decide ((p_b.length : Int) < (IntKind.i64.wrap ((IntKind.i64.wrap ((IntKind.i64.wrap ((x3.length : Int) - (x2.2.1.length : Int))) + 8)) + x2.1)))) (some (.inl ())) (some (.inr ()))))
theorem s_frame_one_J0 (d : Nat) {x2 : Int × List UInt8 × Int} {p_b : List UInt8} {x3 : List UInt8} {r : Unit ⊕ Unit} (h : frame_one_J0 x2 p_b x3 = some r) : RunX (bexec (wcalls atab (d + 0)) KK 64 WJ85_bbba) 0 (in_frame_one_J0 x2 p_b x3) (fin_frame_one_J0 x2 p_b x3 r) := by
  have e : ∀ C : ACalls, wCode C (fun _ => none) KK 64 0 WJ85_bbba (in_frame_one_J0 x2 p_b x3).1 (in_frame_one_J0 x2 p_b x3).2 (.br 31 (.en [2, 3, 4] [none, none, none] [] []) (.br 35 (.en [2, 3, 4] [none, none, none] [] []) (.br 42 (.en [2, 3, 4] [none, none, none] [] []) (.en [0, 5, 8] [none, none, none] [] [])))) (fin_frame_one_J0 x2 p_b x3 r) = (((x2.2.2 != 0) = true → lfe (fin_frame_one_J0 x2 p_b x3) (.inl ()) r) ∧ ((x2.2.2 != 0) = false → (((decide (x2.1 > 4000)) = true → lfe (fin_frame_one_J0 x2 p_b x3) (.inl ()) r) ∧ ((decide (x2.1 > 4000)) = false → (((decide ((p_b.length : Int) < (IntKind.i64.wrap ((IntKind.i64.wrap ((IntKind.i64.wrap ((x3.length : Int) - (x2.2.1.length : Int))) + 8)) + x2.1)))) = true → lfe (fin_frame_one_J0 x2 p_b x3) (.inl ()) r) ∧ ((decide ((p_b.length : Int) < (IntKind.i64.wrap ((IntKind.i64.wrap ((IntKind.i64.wrap ((x3.length : Int) - (x2.2.1.length : Int))) + 8)) + x2.1)))) = false → lfe (fin_frame_one_J0 x2 p_b x3) (.inr ()) r)))))) := fun C => by kernel_rfl
  refine runS_of (fun _ _ h => by cases h) WJ85_bbba_ok (Nat.le_of_ble_eq_true rfl) ((e _).mpr ?_)
  unfold frame_one_J0 at h
  refine ⟨fun hb => ?_, fun hb => ?_⟩
  · have h := cond_t hb h
    exact lfe_of h
  · have h := cond_f hb h
    refine ⟨fun hb => ?_, fun hb => ?_⟩
    · have h := cond_t hb h
      exact lfe_of h
    · have h := cond_f hb h
      refine ⟨fun hb => ?_, fun hb => ?_⟩
      · have h := cond_t hb h
        exact lfe_of h
      · have h := cond_f hb h
        exact lfe_of h

def frame_one (p_b : List UInt8) : Option (List UInt8 × Int × Bool) :=
  (slI p_b 0 (if (9 : Int) < (p_b.length : Int) then 9 else (p_b.length : Int))).bind fun (x1 : List UInt8) => (nums_Take x1).bind fun (x2 : Int × List UInt8 × Int) => (slI p_b 0 (if (9 : Int) < (p_b.length : Int) then 9 else (p_b.length : Int))).bind fun (x3 : List UInt8) => (frame_one_J0 x2 p_b x3).bind fun (x4 : Unit ⊕ Unit) => cond (isL x4) (some ([], 0, false)) ((slI p_b (IntKind.i64.wrap ((IntKind.i64.wrap ((x3.length : Int) - (x2.2.1.length : Int))) + 8)) (IntKind.i64.wrap ((IntKind.i64.wrap ((IntKind.i64.wrap ((x3.length : Int) - (x2.2.1.length : Int))) + 8)) + x2.1))).bind fun (x6 : List UInt8) => (frame_sum x6).bind fun (x7 : List UInt8) => (slI p_b (IntKind.i64.wrap ((IntKind.i64.wrap ((IntKind.i64.wrap ((x3.length : Int) - (x2.2.1.length : Int))) + 8)) - 8)) (IntKind.i64.wrap ((IntKind.i64.wrap ((x3.length : Int) - (x2.2.1.length : Int))) + 8))).bind fun (x8 : List UInt8) => (slices_Equal_byte_byte x7 x8).bind fun (x9 : Bool) => cond (!x9) (some ([], 0, false)) (gd (fitsB 1 x6.length) (some (x6, (IntKind.i64.wrap ((IntKind.i64.wrap ((IntKind.i64.wrap ((x3.length : Int) - (x2.2.1.length : Int))) + 8)) + x2.1)), true))))
def out_frame_one (p_b : List UInt8) (r : List UInt8 × Int × Bool) : AV × WH := ((.tuple [(l_B r.1), (.int .i64 r.2.1), (.bool r.2.2)]), [])

theorem s_frame_one (d : Nat) {p_b : List UInt8} {r : List UInt8 × Int × Bool} (h : frame_one p_b = some r) : Spec (wcalls atab (d + 5)) 85 [(l_B p_b)] [] (out_frame_one p_b r).1 (out_frame_one p_b r).2 := by
  obtain ⟨x1, hx1⟩ := wx (slI p_b 0 (if (9 : Int) < (p_b.length : Int) then 9 else (p_b.length : Int)))
  obtain ⟨x2, hx2⟩ := wx (nums_Take x1)
  obtain ⟨x3, hx3⟩ := wx (slI p_b 0 (if (9 : Int) < (p_b.length : Int) then 9 else (p_b.length : Int)))
  obtain ⟨x4, hx4⟩ := wx (frame_one_J0 x2 p_b x3)
  obtain ⟨x6, hx6⟩ := wx (slI p_b (IntKind.i64.wrap ((IntKind.i64.wrap ((x3.length : Int) - (x2.2.1.length : Int))) + 8)) (IntKind.i64.wrap ((IntKind.i64.wrap ((IntKind.i64.wrap ((x3.length : Int) - (x2.2.1.length : Int))) + 8)) + x2.1)))
  obtain ⟨x7, hx7⟩ := wx (frame_sum x6)
  obtain ⟨x8, hx8⟩ := wx (slI p_b (IntKind.i64.wrap ((IntKind.i64.wrap ((IntKind.i64.wrap ((x3.length : Int) - (x2.2.1.length : Int))) + 8)) - 8)) (IntKind.i64.wrap ((IntKind.i64.wrap ((x3.length : Int) - (x2.2.1.length : Int))) + 8)))
  obtain ⟨x9, hx9⟩ := wx (slices_Equal_byte_byte x7 x8)
  have e : ∀ C : ACalls, wBody C wB KK WF85 [(l_B p_b)] [] (.v 14 (l_B x1) (.call [] (some false) [] (.tuple [(.int .i64 x2.1), (l_B x2.2.1), (.int .i64 x2.2.2)]) [] (.v 23 (l_B x3) (.ite (isL x4) (.jn [0, 5, 7, 8] [none, none, none, none] [] [] .ret [(2, (.slice none 1 0 0 true)), (3, (.int .i64 0)), (4, (.bool false))] [] (.fin (some false) [] none)) (.jn [0, 5, 7, 8] [none, none, none, none] [] [] .normal [(0, (l_B p_b)), (5, (.int .i64 x2.1)), (8, (.int .i64 (IntKind.i64.wrap ((IntKind.i64.wrap ((x3.length : Int) - (x2.2.1.length : Int))) + 8))))] [] (.v 48 (l_B x6) (.call [] (some false) [] (l_B x7) [] (.v 55 (l_B x8) (.cb [] [] (.bool x9) (.br 57 (.fin (some false) [] none) (.fin (some false) [] none))))))))))) (out_frame_one p_b r).1 (out_frame_one p_b r).2 = (1 = 1 ∧ 1 ≤ 64 ∧ (wP (.slice 1 (.c (l_B p_b)) none (some (.c (.int .i64 (if (9 : Int) < (p_b.length : Int) then 9 else (p_b.length : Int))))) none) = some (l_B x1) ∧ (Spec C 119 [(l_B x1)] [] (.tuple [(.int .i64 x2.1), (l_B x2.2.1), (.int .i64 x2.2.2)]) [] ∧ (0 ≤ 0 ∧ (wP (.slice 1 (.c (l_B p_b)) none (some (.c (.int .i64 (if (9 : Int) < (p_b.length : Int) then 9 else (p_b.length : Int))))) none) = some (l_B x3) ∧ (((isL x4) = true → (RunS (bexec C KK 64 WJ85_bbba) 0 [(0, (l_B p_b)), (5, (.int .i64 x2.1)), (7, (.int .i64 x2.2.2)), (8, (.int .i64 (IntKind.i64.wrap ((IntKind.i64.wrap ((x3.length : Int) - (x2.2.1.length : Int))) + 8))))] [] .ret [(2, (.slice none 1 0 0 true)), (3, (.int .i64 0)), (4, (.bool false))] [] ∧ lff (out_frame_one p_b) ([], 0, false) r)) ∧ ((isL x4) = false → (RunS (bexec C KK 64 WJ85_bbba) 0 [(0, (l_B p_b)), (5, (.int .i64 x2.1)), (7, (.int .i64 x2.2.2)), (8, (.int .i64 (IntKind.i64.wrap ((IntKind.i64.wrap ((x3.length : Int) - (x2.2.1.length : Int))) + 8))))] [] .normal [(0, (l_B p_b)), (5, (.int .i64 x2.1)), (8, (.int .i64 (IntKind.i64.wrap ((IntKind.i64.wrap ((x3.length : Int) - (x2.2.1.length : Int))) + 8))))] [] ∧ (wP (.slice 1 (.c (l_B p_b)) (some (.c (.int .i64 (IntKind.i64.wrap ((IntKind.i64.wrap ((x3.length : Int) - (x2.2.1.length : Int))) + 8))))) (some (.c (.int .i64 (IntKind.i64.wrap ((IntKind.i64.wrap ((IntKind.i64.wrap ((x3.length : Int) - (x2.2.1.length : Int))) + 8)) + x2.1))))) none) = some (l_B x6) ∧ (Spec C 83 [(l_B x6)] [] (l_B x7) [] ∧ (0 ≤ 0 ∧ (wP (.slice 1 (.c (l_B p_b)) (some (.c (.int .i64 (IntKind.i64.wrap ((IntKind.i64.wrap ((IntKind.i64.wrap ((x3.length : Int) - (x2.2.1.length : Int))) + 8)) - 8))))) (some (.c (.int .i64 (IntKind.i64.wrap ((IntKind.i64.wrap ((x3.length : Int) - (x2.2.1.length : Int))) + 8))))) none) = some (l_B x8) ∧ (Spec C 120 [(l_B x7), (l_B x8)] [] (.bool x9) [] ∧ (((!x9) = true → lff (out_frame_one p_b) ([], 0, false) r) ∧ ((!x9) = false → (fitsB 1 x6.length = true ∧ lff (out_frame_one p_b) (x6, (IntKind.i64.wrap ((IntKind.i64.wrap ((IntKind.i64.wrap ((x3.length : Int) - (x2.2.1.length : Int))) + 8)) + x2.1)), true) r)))))))))))))))) := fun C => by kernel_rfl
  refine spec_of (wB_ok _) rfl atab_85 WF85_ok ((e _).mpr ⟨rfl, by decide, ?_⟩)
  unfold frame_one at h
  obtain ⟨q1, h⟩ := bget hx1 h
  refine ⟨wP_sl_h R_B q1, ?_⟩
  obtain ⟨q2, h⟩ := bget hx2 h
  refine ⟨s_nums_Take (d + 0) q2, ?_⟩
  refine ⟨by decide, ?_⟩
  obtain ⟨q3, h⟩ := bget hx3 h
  refine ⟨wP_sl_h R_B q3, ?_⟩
  obtain ⟨q4, h⟩ := bget hx4 h
  refine ⟨fun hb5 => ?_, fun hb5 => ?_⟩
  · have h := cond_t hb5 h
    refine ⟨by have h := s_frame_one_J0 (d + 4) q4; rw [isL_t hb5] at h; exact h, ?_⟩
    exact lff_of h
  · have h := cond_f hb5 h
    refine ⟨by have h := s_frame_one_J0 (d + 4) q4; rw [isL_f hb5] at h; exact h, ?_⟩
    obtain ⟨q6, h⟩ := bget hx6 h
    refine ⟨wP_sl_lh R_B q6, ?_⟩
    obtain ⟨q7, h⟩ := bget hx7 h
    refine ⟨s_frame_sum (d + 2) q7, ?_⟩
    refine ⟨by decide, ?_⟩
    obtain ⟨q8, h⟩ := bget hx8 h
    refine ⟨wP_sl_lh R_B q8, ?_⟩
    obtain ⟨q9, h⟩ := bget hx9 h
    refine ⟨s_slices_Equal_byte_byte (d + 3) q9, ?_⟩
    refine ⟨fun hb => ?_, fun hb => ?_⟩
    · have h := cond_t hb h
      exact lff_of h
    · have h := cond_f hb h
      obtain ⟨q10, h⟩ := gd_some h
      refine ⟨q10, ?_⟩
      exact lff_of h

/- osmosis/frame.Read -/
def st_frame_Read_L0 (p_b : List UInt8) (s7 : Int × List (List UInt8)) : List AV × WH := ([(l_B p_b), (.acc 0 0 1 s7.2.length true), (.int .i64 s7.1)], [(some (.cells (F_LB s7.2) false true))])
def fin_frame_Read_L0 (p_b : List UInt8) : (Int × List (List UInt8)) → Ex × Fast × WH := fun e => (.ret, [(2, (.acc 0 0 1 e.2.length true)), (3, (.int .i64 e.1))], [(some (.cells (F_LB e.2) false true))])
abbrev rx_frame_Read_L0 (p_b : List UInt8) := roundX [0, 2, 3] (st_frame_Read_L0 p_b) (fin_frame_Read_L0 p_b)
def frame_Read_L0_s (p_b : List UInt8) (s7 : Int × List (List UInt8)) : Option ((Int × List (List UInt8)) ⊕ ((Int × List (List UInt8)))) :=
  (slI p_b s7.1 p_b.length).bind fun (x8 : List UInt8) => (frame_one x8).bind fun (x9 : List UInt8 × Int × Bool) => cond (!x9.2.2) (some (.inr (s7.1, s7.2))) (gd (fitsB 24 (s7.2 ++ [x9.1]).length) (some (.inl ((IntKind.i64.wrap (s7.1 + x9.2.1)), (s7.2 ++ [x9.1])))))
def frame_Read_L0 (p_b : List UInt8) (s7 : Int × List (List UInt8)) : Option ((Int × List (List UInt8))) := loopX (frame_Read_L0_s p_b) KK s7
theorem b_frame_Read_L0 (d : Nat) {p_b : List UInt8} {s7 : Int × List (List UInt8)} {r : (Int × List (List UInt8)) ⊕ ((Int × List (List UInt8)))} (h : frame_Read_L0_s p_b s7 = some r) : RunX (bexec (wcalls atab (d + 5)) KK 27 WB24_0) 0 (inL [0, 2, 3] (st_frame_Read_L0 p_b s7)) (rx_frame_Read_L0 p_b r) := by
  obtain ⟨x8, hx8⟩ := wx (slI p_b s7.1 p_b.length)
  obtain ⟨x9, hx9⟩ := wx (frame_one x8)
  have e : ∀ C : ACalls, wCode C wB KK 27 0 WB24_0 (inL [0, 2, 3] (st_frame_Read_L0 p_b s7)).1 (inL [0, 2, 3] (st_frame_Read_L0 p_b s7)).2 (.v 10 (l_B x8) (.call [] (some false) [] (.tuple [(l_B x9.1), (.int .i64 x9.2.1), (.bool x9.2.2)]) [] (.br 16 (.en [2, 3] [none, none] [] []) (.ap 23 (s7.2 ++ [x9.1]).length (F_LB (s7.2 ++ [x9.1])) (.en [0, 2, 3] [none, none, none] [] []))))) (rx_frame_Read_L0 p_b r) = (wP (.slice 1 (.c (l_B p_b)) (some (.c (.int .i64 s7.1))) none none) = some (l_B x8) ∧ (Spec C 85 [(l_B x8)] [] (.tuple [(l_B x9.1), (.int .i64 x9.2.1), (.bool x9.2.2)]) [] ∧ (0 ≤ 0 ∧ (((!x9.2.2) = true → lfe (rx_frame_Read_L0 p_b) (.inr (s7.1, s7.2)) r) ∧ ((!x9.2.2) = false → (s7.2.length + 1 = (s7.2 ++ [x9.1]).length ∧ (F_LB s7.2 ++ F_LB [x9.1] = F_LB (s7.2 ++ [x9.1]) ∧ (fitsB 24 (s7.2 ++ [x9.1]).length = true ∧ lfe (rx_frame_Read_L0 p_b) (.inl ((IntKind.i64.wrap (s7.1 + x9.2.1)), (s7.2 ++ [x9.1]))) r)))))))) := fun C => by kernel_rfl
  refine runS_of (wB_ok _) WB24_0_ok (Nat.le_of_ble_eq_true rfl) ((e _).mpr ?_)
  unfold frame_Read_L0_s at h
  obtain ⟨q8, h⟩ := bget hx8 h
  refine ⟨wP_sl_l R_B q8, ?_⟩
  obtain ⟨q9, h⟩ := bget hx9 h
  refine ⟨s_frame_one (d + 0) q9, ?_⟩
  refine ⟨by decide, ?_⟩
  refine ⟨fun hb => ?_, fun hb => ?_⟩
  · have h := cond_t hb h
    exact lfe_of h
  · have h := cond_f hb h
    obtain ⟨q10, h⟩ := gd_some h
    refine ⟨by simp, ?_⟩
    refine ⟨(Row.app R_LB _ _).symm, ?_⟩
    refine ⟨q10, ?_⟩
    exact lfe_of h
theorem s_frame_Read_L0 (d : Nat) {p_b : List UInt8} {s7 : Int × List (List UInt8)} {r : (Int × List (List UInt8))} (h : frame_Read_L0 p_b s7 = some r) : RunX (bloop (bexec (wcalls atab (d + 5)) KK 27 WB24_0) [0, 2, 3] KK) 0 (inL [0, 2, 3] (st_frame_Read_L0 p_b s7)) (fin_frame_Read_L0 p_b r) :=
  loop_of (st := st_frame_Read_L0 p_b) (fin := fin_frame_Read_L0 p_b) (step := frame_Read_L0_s p_b) (fun e => by (intro h; cases h)) (fun s x h => b_frame_Read_L0 d h) KK s7 r h

def frame_Read (p_b : List UInt8) : Option (List (List UInt8) × Int) :=
  (frame_Read_L0 p_b (0, [])).bind fun (x11 : (Int × List (List UInt8))) => some (x11.2, x11.1)
def out_frame_Read (p_b : List UInt8) (r : List (List UInt8) × Int) : AV × WH := ((.tuple [(l_LB r.1), (.int .i64 r.2)]), [])

theorem s_frame_Read (d : Nat) {p_b : List UInt8} {r : List (List UInt8) × Int} (h : frame_Read p_b = some r) : Spec (wcalls atab (d + 6)) 24 [(l_B p_b)] [] (out_frame_Read p_b r).1 (out_frame_Read p_b r).2 := by
  obtain ⟨x11, hx11⟩ := wx (frame_Read_L0 p_b (0, []))
  have e : ∀ C : ACalls, wBody C (fun _ => none) KK WF24 [(l_B p_b)] [] (.lp [none, (some true), none] [] [] .ret [(2, (.acc 0 0 1 x11.2.length true)), (3, (.int .i64 x11.1))] [(some (.cells (F_LB x11.2) false true))] (.fin (some false) [] none)) (out_frame_Read p_b r).1 (out_frame_Read p_b r).2 = (1 = 1 ∧ 1 ≤ 27 ∧ (RunS (bloop (bexec C KK 27 WB24_0) [0, 2, 3] KK) 0 [(0, (l_B p_b)), (2, (.acc 0 0 1 0 true)), (3, (.int .i64 0))] [(some (.cells (F_LB []) false true))] .ret [(2, (.acc 0 0 1 x11.2.length true)), (3, (.int .i64 x11.1))] [(some (.cells (F_LB x11.2) false true))] ∧ lff (out_frame_Read p_b) (x11.2, x11.1) r)) := fun C => by kernel_rfl
  refine spec_of (fun _ _ h => by cases h) rfl atab_24 WF24_ok ((e _).mpr ⟨rfl, by decide, ?_⟩)
  unfold frame_Read at h
  obtain ⟨q11, h⟩ := bget hx11 h
  refine ⟨s_frame_Read_L0 (d + 0) q11, ?_⟩
  exact lff_of h

/- osmosis/osmosishand.Few -/
def osmosishand_Few (p_b : List UInt8) (n : Int) : Option (List UInt8) :=
  cond (decide ((p_b.length : Int) > n)) ((slI p_b 0 n).bind fun (x1 : List UInt8) => gd (fitsB 1 x1.length) (some x1)) (gd (fitsB 1 p_b.length) (some p_b))
def out_osmosishand_Few (p_b : List UInt8) (n : Int) (r : List UInt8) : AV × WH := ((l_B r), [])

theorem s_osmosishand_Few (d : Nat) {p_b : List UInt8} {n : Int} {r : List UInt8} (h : osmosishand_Few p_b n = some r) : Spec (wcalls atab (d + 1)) 34 [(l_B p_b), (.int .i64 n)] [] (out_osmosishand_Few p_b n r).1 (out_osmosishand_Few p_b n r).2 := by
  obtain ⟨x1, hx1⟩ := wx (slI p_b 0 n)
  have e : ∀ C : ACalls, wBody C (fun _ => none) KK WF34 [(l_B p_b), (.int .i64 n)] [] (.br 8 (.v 11 (l_B x1) (.ap 14 x1.length (F_B x1) (.fin (some false) [] none))) (.ap 14 p_b.length (F_B p_b) (.fin (some false) [] none))) (out_osmosishand_Few p_b n r).1 (out_osmosishand_Few p_b n r).2 = (2 = 2 ∧ 2 ≤ 15 ∧ (((decide ((p_b.length : Int) > n)) = true → (wP (.slice 1 (.c (l_B p_b)) none (some (.c (.int .i64 n))) none) = some (l_B x1) ∧ (0 + x1.length = x1.length ∧ (F_B [] ++ F_B x1 = F_B x1 ∧ (fitsB 1 x1.length = true ∧ lff (out_osmosishand_Few p_b n) x1 r))))) ∧ ((decide ((p_b.length : Int) > n)) = false → (0 + p_b.length = p_b.length ∧ (F_B [] ++ F_B p_b = F_B p_b ∧ (fitsB 1 p_b.length = true ∧ lff (out_osmosishand_Few p_b n) p_b r)))))) := fun C => by kernel_rfl
  refine spec_of (fun _ _ h => by cases h) rfl atab_34 WF34_ok ((e _).mpr ⟨rfl, by decide, ?_⟩)
  unfold osmosishand_Few at h
  refine ⟨fun hb => ?_, fun hb => ?_⟩
  · have h := cond_t hb h
    obtain ⟨q1, h⟩ := bget hx1 h
    refine ⟨wP_sl_h R_B q1, ?_⟩
    obtain ⟨q2, h⟩ := gd_some h
    refine ⟨by simp, ?_⟩
    refine ⟨by first | rfl | simp [F_B], ?_⟩
    refine ⟨q2, ?_⟩
    exact lff_of h
  · have h := cond_f hb h
    obtain ⟨q3, h⟩ := gd_some h
    refine ⟨by simp, ?_⟩
    refine ⟨by first | rfl | simp [F_B], ?_⟩
    refine ⟨q3, ?_⟩
    exact lff_of h

/- osmosis/osmosishand.Pick -/
def osmosishand_Pick (n : Int) (m : Int) : Option (Int) :=
  (remI .i64 n m).bind fun (x1 : Int) => cond (decide (x1 < 0)) (some (IntKind.i64.wrap (x1 + m))) (some x1)
def out_osmosishand_Pick (n : Int) (m : Int) (r : Int) : AV × WH := ((.int .i64 r), [])

theorem s_osmosishand_Pick (d : Nat) {n : Int} {m : Int} {r : Int} (h : osmosishand_Pick n m = some r) : Spec (wcalls atab (d + 1)) 28 [(.int .i64 n), (.int .i64 m)] [] (out_osmosishand_Pick n m r).1 (out_osmosishand_Pick n m r).2 := by
  obtain ⟨x1, hx1⟩ := wx (remI .i64 n m)
  have e : ∀ C : ACalls, wBody C (fun _ => none) KK WF28 [(.int .i64 n), (.int .i64 m)] [] (.v 7 (.int .i64 x1) (.br 9 (.fin (some false) [] none) (.fin (some false) [] none))) (out_osmosishand_Pick n m r).1 (out_osmosishand_Pick n m r).2 = (2 = 2 ∧ 2 ≤ 14 ∧ (aInts .rem .i64 n m = some (.int .i64 x1) ∧ (((decide (x1 < 0)) = true → lff (out_osmosishand_Pick n m) (IntKind.i64.wrap (x1 + m)) r) ∧ ((decide (x1 < 0)) = false → lff (out_osmosishand_Pick n m) x1 r)))) := fun C => by kernel_rfl
  refine spec_of (fun _ _ h => by cases h) rfl atab_28 WF28_ok ((e _).mpr ⟨rfl, by decide, ?_⟩)
  unfold osmosishand_Pick at h
  obtain ⟨q1, h⟩ := bget hx1 h
  refine ⟨wP_rem q1, ?_⟩
  refine ⟨fun hb => ?_, fun hb => ?_⟩
  · have h := cond_t hb h
    exact lff_of h
  · have h := cond_f hb h
    exact lff_of h

/- osmosis/disk.New -/
def disk_New  : Option (Int) :=
  some 0
def out_disk_New (r : Int) : AV × WH := ((.ptr (some (0, 0))), [(some (.cells [(.slice none 1 0 0 true), (.int .i64 r)] false false))])

theorem s_disk_New (d : Nat)  {r : Int} (h : disk_New = some r) : Spec (wcalls atab (d + 1)) 30 [] [] (out_disk_New r).1 (out_disk_New r).2 := by
  have e : ∀ C : ACalls, wBody C (fun _ => none) KK WF30 [] [] (.fin (some false) [] none) (out_disk_New r).1 (out_disk_New r).2 = (0 = 0 ∧ 0 ≤ 3 ∧ lff out_disk_New 0 r) := fun C => by kernel_rfl
  refine spec_of (fun _ _ h => by cases h) rfl atab_30 WF30_ok ((e _).mpr ⟨rfl, by decide, ?_⟩)
  unfold disk_New at h
  exact lff_of h

/- (*osmosis/disk.Disk).Bytes -/
def disk_Disk_Bytes (p_d : Int) : Option (List UInt8) :=
  gd (fitsB 1 0) (some ([] : List UInt8))
def out_disk_Disk_Bytes (p_d : Int) (r : List UInt8) : AV × WH := ((l_B r), [(some (.cells [(.slice none 1 0 0 true), (.int .i64 p_d)] false false))])

theorem s_disk_Disk_Bytes (d : Nat) {p_d : Int} {r : List UInt8} (h : disk_Disk_Bytes p_d = some r) : Spec (wcalls atab (d + 2)) 50 [(.ptr (some (0, 0)))] [(some (.cells [(.slice none 1 0 0 true), (.int .i64 p_d)] false false))] (out_disk_Disk_Bytes p_d r).1 (out_disk_Disk_Bytes p_d r).2 := by
  have e : ∀ C : ACalls, wBody C wB KK WF50 [(.ptr (some (0, 0)))] [(some (.cells [(.slice none 1 0 0 true), (.int .i64 p_d)] false false))] (.fin (some false) [] none) (out_disk_Disk_Bytes p_d r).1 (out_disk_Disk_Bytes p_d r).2 = (1 = 1 ∧ 1 ≤ 9 ∧ (fitsB 1 0 = true ∧ lff (out_disk_Disk_Bytes p_d) ([] : List UInt8) r)) := fun C => by kernel_rfl
  refine spec_of (wB_ok _) rfl atab_50 WF50_ok ((e _).mpr ⟨rfl, by decide, ?_⟩)
  unfold disk_Disk_Bytes at h
  obtain ⟨q1, h⟩ := gd_some h
  refine ⟨q1, ?_⟩
  exact lff_of h

/- (*osmosis/disk.Disk).Swap -/
def disk_Disk_Swap (p_b : List UInt8) (p_d : Int) : Option (Bool × Int × List UInt8) :=
  cond (decide ((p_b.length : Int) > 65536)) (some (false, p_d, [])) (gd (fitsB 1 p_b.length) (some (true, (p_b.length : Int), p_b)))
def out_disk_Disk_Swap (p_b : List UInt8) (p_d : Int) (r : Bool × Int × List UInt8) : AV × WH := ((.bool r.1), [(some (.cells [(.acc 1 0 1 r.2.2.length true), (.int .i64 r.2.1)] false false)), (some (.cells (F_B r.2.2) false true))])

theorem s_disk_Disk_Swap (d : Nat) {p_b : List UInt8} {p_d : Int} {r : Bool × Int × List UInt8} (h : disk_Disk_Swap p_b p_d = some r) : Spec (wcalls atab (d + 2)) 91 [(.ptr (some (0, 0))), (l_B p_b)] [(some (.cells [(.slice none 1 0 0 true), (.int .i64 p_d)] false false))] (out_disk_Disk_Swap p_b p_d r).1 (out_disk_Disk_Swap p_b p_d r).2 := by
  have e : ∀ C : ACalls, wBody C wB KK WF91 [(.ptr (some (0, 0))), (l_B p_b)] [(some (.cells [(.slice none 1 0 0 true), (.int .i64 p_d)] false false))] (.br 7 (.fin (some false) [] (some true)) (.st none (.st none (.fin (some false) [] (some true))))) (out_disk_Disk_Swap p_b p_d r).1 (out_disk_Disk_Swap p_b p_d r).2 = (2 = 2 ∧ 2 ≤ 18 ∧ (((decide ((p_b.length : Int) > 65536)) = true → (@Eq AV (.bool false) (out_disk_Disk_Swap p_b p_d r).1 ∧ @Eq WH [(some (.cells [(.acc 1 0 1 0 true), (.int .i64 p_d)] false false)), (some (.cells (F_B []) false true))] (out_disk_Disk_Swap p_b p_d r).2)) ∧ ((decide ((p_b.length : Int) > 65536)) = false → (fitsB 1 p_b.length = true ∧ lff (out_disk_Disk_Swap p_b p_d) (true, (p_b.length : Int), p_b) r)))) := fun C => by kernel_rfl
  refine spec_of (wB_ok _) rfl atab_91 WF91_ok ((e _).mpr ⟨rfl, by decide, ?_⟩)
  unfold disk_Disk_Swap at h
  refine ⟨fun hb => ?_, fun hb => ?_⟩
  · have h := cond_t hb h
    obtain rfl := Option.some.inj h
    refine ⟨?_, ?_⟩ <;> first | rfl | (simp only [out_disk_Disk_Swap, List.length_set, List.length_append, List.length_replicate, List.length_cons, List.length_nil, List.length_take, List.length_drop, Nat.add_zero, Nat.zero_add]; done) | simp [out_disk_Disk_Swap]
  · have h := cond_f hb h
    obtain ⟨q1, h⟩ := gd_some h
    refine ⟨q1, ?_⟩
    exact lff_of h

/- osmosis/wal.Open -/
def wal_Open (p_d : Int) : Option (Int × List UInt8) :=
  (disk_Disk_Bytes p_d).bind fun (x1 : List UInt8) => (frame_Read x1).bind fun (x2 : List (List UInt8) × Int) => cond (decide (x2.2 < (x1.length : Int))) ((slI x1 0 x2.2).bind fun (x3 : List UInt8) => (disk_Disk_Swap x3 p_d).bind fun (x4 : Bool × Int × List UInt8) => some (x4.2.1, x4.2.2)) (some (p_d, []))
def out_wal_Open (p_d : Int) (r : Int × List UInt8) : AV × WH := ((.ptr (some (1, 0))), [(some (.cells [(.acc 2 0 1 r.2.length true), (.int .i64 r.1)] false false)), (some (.cells [(.ptr (some (0, 0)))] false false)), (some (.cells (F_B r.2) false true))])

theorem s_wal_Open (d : Nat) {p_d : Int} {r : Int × List UInt8} (h : wal_Open p_d = some r) : Spec (wcalls atab (d + 7)) 31 [(.ptr (some (0, 0)))] [(some (.cells [(.slice none 1 0 0 true), (.int .i64 p_d)] false false))] (out_wal_Open p_d r).1 (out_wal_Open p_d r).2 := by
  obtain ⟨x1, hx1⟩ := wx (disk_Disk_Bytes p_d)
  obtain ⟨x2, hx2⟩ := wx (frame_Read x1)
  obtain ⟨x3, hx3⟩ := wx (slI x1 0 x2.2)
  obtain ⟨x4, hx4⟩ := wx (disk_Disk_Swap x3 p_d)
  have e : ∀ C : ACalls, wBody C (fun _ => none) KK WF31 [(.ptr (some (0, 0)))] [(some (.cells [(.slice none 1 0 0 true), (.int .i64 p_d)] false false))] (.call [] none [] (l_B x1) [(some (.cells [(.slice none 1 0 0 true), (.int .i64 p_d)] false false))] (.call [] (some false) [] (.tuple [(l_LB x2.1), (.int .i64 x2.2)]) [] (.br 18 (.v 22 (l_B x3) (.call [] none [] (.bool x4.1) [(some (.cells [(.acc 1 0 1 x4.2.2.length true), (.int .i64 x4.2.1)] false false)), (some (.cells (F_B x4.2.2) false true))] (.fin (some false) [] (some true)))) (.fin (some false) [] (some true))))) (out_wal_Open p_d r).1 (out_wal_Open p_d r).2 = (1 = 1 ∧ 1 ≤ 27 ∧ (Spec C 50 [(.ptr (some (0, 0)))] [(some (.cells [(.slice none 1 0 0 true), (.int .i64 p_d)] false false))] (l_B x1) [(some (.cells [(.slice none 1 0 0 true), (.int .i64 p_d)] false false))] ∧ (1 ≤ 1 ∧ (Spec C 24 [(l_B x1)] [] (.tuple [(l_LB x2.1), (.int .i64 x2.2)]) [] ∧ (0 ≤ 0 ∧ (((decide (x2.2 < (x1.length : Int))) = true → (wP (.slice 1 (.c (l_B x1)) none (some (.c (.int .i64 x2.2))) none) = some (l_B x3) ∧ (Spec C 91 [(.ptr (some (0, 0))), (l_B x3)] [(some (.cells [(.slice none 1 0 0 true), (.int .i64 p_d)] false false))] (.bool x4.1) [(some (.cells [(.acc 1 0 1 x4.2.2.length true), (.int .i64 x4.2.1)] false false)), (some (.cells (F_B x4.2.2) false true))] ∧ (1 ≤ 2 ∧ lff (out_wal_Open p_d) (x4.2.1, x4.2.2) r)))) ∧ ((decide (x2.2 < (x1.length : Int))) = false → (@Eq AV (.ptr (some (1, 0))) (out_wal_Open p_d r).1 ∧ @Eq WH [(some (.cells [(.acc 2 0 1 0 true), (.int .i64 p_d)] false false)), (some (.cells [(.ptr (some (0, 0)))] false false)), (some (.cells (F_B []) false true))] (out_wal_Open p_d r).2)))))))) := fun C => by kernel_rfl
  refine spec_of (fun _ _ h => by cases h) rfl atab_31 WF31_ok ((e _).mpr ⟨rfl, by decide, ?_⟩)
  unfold wal_Open at h
  obtain ⟨q1, h⟩ := bget hx1 h
  refine ⟨s_disk_Disk_Bytes (d + 4) q1, ?_⟩
  refine ⟨by decide, ?_⟩
  obtain ⟨q2, h⟩ := bget hx2 h
  refine ⟨s_frame_Read (d + 0) q2, ?_⟩
  refine ⟨by decide, ?_⟩
  refine ⟨fun hb => ?_, fun hb => ?_⟩
  · have h := cond_t hb h
    obtain ⟨q3, h⟩ := bget hx3 h
    refine ⟨wP_sl_h R_B q3, ?_⟩
    obtain ⟨q4, h⟩ := bget hx4 h
    refine ⟨s_disk_Disk_Swap (d + 4) q4, ?_⟩
    refine ⟨by decide, ?_⟩
    exact lff_of h
  · have h := cond_f hb h
    obtain rfl := Option.some.inj h
    refine ⟨?_, ?_⟩ <;> first | rfl | (simp only [out_wal_Open, List.length_set, List.length_append, List.length_replicate, List.length_cons, List.length_nil, List.length_take, List.length_drop, Nat.add_zero, Nat.zero_add]; done) | simp [out_wal_Open]

/- osmosis/wal.long$1 -/
def wal_long_1 (p_r : List UInt8) : Option (Bool) :=
  some (decide ((p_r.length : Int) > 4000))
def out_wal_long_1 (p_r : List UInt8) (r : Bool) : AV × WH := ((.bool r), [])

theorem s_wal_long_1 (d : Nat) {p_r : List UInt8} {r : Bool} (h : wal_long_1 p_r = some r) : Spec (wcalls atab (d + 1)) 125 [(l_B p_r)] [] (out_wal_long_1 p_r r).1 (out_wal_long_1 p_r r).2 := by
  have e : ∀ C : ACalls, wBody C (fun _ => none) KK WF125 [(l_B p_r)] [] (.fin (some false) [] none) (out_wal_long_1 p_r r).1 (out_wal_long_1 p_r r).2 = (1 = 1 ∧ 1 ≤ 6 ∧ lff (out_wal_long_1 p_r) (decide ((p_r.length : Int) > 4000)) r) := fun C => by kernel_rfl
  refine spec_of (fun _ _ h => by cases h) rfl atab_125 WF125_ok ((e _).mpr ⟨rfl, by decide, ?_⟩)
  unfold wal_long_1 at h
  exact lff_of h

end Go.Proofs.Ytachollgbplikaa
