/- Functions as Lean functions, part 1. -/
import Derived.Test.YteibgagdnidojaaXt
import Derived.Test.YteibgagdnidojaaXs
set_option linter.all false
set_option maxRecDepth 100000
namespace Go.Proofs.Yteibgagdnidojaa
/- osmosis/disk.New -/
def disk_New  : Option (Int) :=
  some 0
def out_disk_New (r : Int) : AV × WH := ((.ptr (some (0, 0))), [(some (.cells [(.slice none 1 0 0 true), (.int .i64 r)] false false))])

theorem s_disk_New (d : Nat)  {r : Int} (h : disk_New = some r) : Spec (wcalls atab (d + 1)) 52 [] [] (out_disk_New r).1 (out_disk_New r).2 := by
  have e : ∀ C : ACalls, wBody C (fun _ => none) KK WF52 [] [] (.fin (some false) [] none) (out_disk_New r).1 (out_disk_New r).2 = (0 = 0 ∧ 0 ≤ 3 ∧ lff out_disk_New 0 r) := fun C => by kernel_rfl
  refine spec_of (fun _ _ h => by cases h) rfl atab_52 WF52_ok ((e _).mpr ⟨rfl, by decide, ?_⟩)
  unfold disk_New at h
  exact lff_of h

/- slices.Concat[[]byte,byte] -/
def st_slices_Concat_byte_byte_L0 (a0 : List (List UInt8)) (s2 : Int × Int) : List AV × WH := ([(l_LB a0), (.int .i64 s2.1), (l_LB a0), (.int .i64 (a0.length : Int)), (.int .i64 s2.2)], [])
def fin_slices_Concat_byte_byte_L0 (a0 : List (List UInt8)) : Int → Ex × Fast × WH := fun e => ((.exit 0), [(0, (l_LB a0)), (3, (.int .i64 e))], [])
abbrev rx_slices_Concat_byte_byte_L0 (a0 : List (List UInt8)) := roundX [0, 3, 9, 10, 11] (st_slices_Concat_byte_byte_L0 a0) (fin_slices_Concat_byte_byte_L0 a0)
def slices_Concat_byte_byte_L0_s (a0 : List (List UInt8)) (s2 : Int × Int) : Option ((Int × Int) ⊕ (Int)) :=
  cond (decide (s2.2 < (a0.length : Int))) ((getI a0 s2.2).bind fun (x3 : List UInt8) => cond (decide ((IntKind.i64.wrap (s2.1 + (x3.length : Int))) < 0)) (none) (some (.inl ((IntKind.i64.wrap (s2.1 + (x3.length : Int))), (IntKind.i64.wrap (s2.2 + 1)))))) (some (.inr s2.1))
def slices_Concat_byte_byte_L0 (a0 : List (List UInt8)) (s2 : Int × Int) : Option (Int) := loopX (slices_Concat_byte_byte_L0_s a0) KK s2
theorem b_slices_Concat_byte_byte_L0 (d : Nat) {a0 : List (List UInt8)} {s2 : Int × Int} {r : (Int × Int) ⊕ (Int)} (h : slices_Concat_byte_byte_L0_s a0 s2 = some r) : RunX (bexec (wcalls atab (d + 0)) KK 36 WB82_0) 0 (inL [0, 3, 9, 10, 11] (st_slices_Concat_byte_byte_L0 a0 s2)) (rx_slices_Concat_byte_byte_L0 a0 r) := by
  obtain ⟨x3, hx3⟩ := wx (getI a0 s2.2)
  have e : ∀ C : ACalls, wCode C (fun _ => none) KK 36 0 WB82_0 (inL [0, 3, 9, 10, 11] (st_slices_Concat_byte_byte_L0 a0 s2)).1 (inL [0, 3, 9, 10, 11] (st_slices_Concat_byte_byte_L0 a0 s2)).2 (.br 12 (.v 13 (.elem ([(l_B x3)] ++ F_LB (a0.drop (s2.2.toNat + 1)))) (.br 20 (.nil) (.en [0, 3, 9, 10, 11] [none, none, none, none, none] [] []))) (.en [0, 3] [none, none] [] [])) (rx_slices_Concat_byte_byte_L0 a0 r) = (((decide (s2.2 < (a0.length : Int))) = true → (wP (.idxSlice 1 (.c (l_LB a0)) (.c (.int .i64 s2.2))) = some (.elem ([(l_B x3)] ++ F_LB (a0.drop (s2.2.toNat + 1)))) ∧ (((decide ((IntKind.i64.wrap (s2.1 + (x3.length : Int))) < 0)) = true → False) ∧ ((decide ((IntKind.i64.wrap (s2.1 + (x3.length : Int))) < 0)) = false → lfe (rx_slices_Concat_byte_byte_L0 a0) (.inl ((IntKind.i64.wrap (s2.1 + (x3.length : Int))), (IntKind.i64.wrap (s2.2 + 1)))) r)))) ∧ ((decide (s2.2 < (a0.length : Int))) = false → lfe (rx_slices_Concat_byte_byte_L0 a0) (.inr s2.1) r)) := fun C => by kernel_rfl
  refine runS_of (fun _ _ h => by cases h) WB82_0_ok (Nat.le_of_ble_eq_true rfl) ((e _).mpr ?_)
  unfold slices_Concat_byte_byte_L0_s at h
  refine ⟨fun hb => ?_, fun hb => ?_⟩
  · have h := cond_t hb h
    obtain ⟨q3, h⟩ := bget hx3 h
    refine ⟨wP_idx R_LB q3, ?_⟩
    refine ⟨fun hb => ?_, fun hb => ?_⟩
    · have h := cond_t hb h
      cases h
    · have h := cond_f hb h
      exact lfe_of h
  · have h := cond_f hb h
    exact lfe_of h
theorem s_slices_Concat_byte_byte_L0 (d : Nat) {a0 : List (List UInt8)} {s2 : Int × Int} {r : Int} (h : slices_Concat_byte_byte_L0 a0 s2 = some r) : RunX (bloop (bexec (wcalls atab (d + 0)) KK 36 WB82_0) [0, 3, 9, 10, 11] KK) 0 (inL [0, 3, 9, 10, 11] (st_slices_Concat_byte_byte_L0 a0 s2)) (fin_slices_Concat_byte_byte_L0 a0 r) :=
  loop_of (st := st_slices_Concat_byte_byte_L0 a0) (fin := fin_slices_Concat_byte_byte_L0 a0) (step := slices_Concat_byte_byte_L0_s a0) (fun e => by (intro h; cases h)) (fun s x h => b_slices_Concat_byte_byte_L0 d h) KK s2 r h

def st_slices_Concat_byte_byte_L1 (a0 : List (List UInt8)) (s8 : Int × List UInt8) : List AV × WH := ([(.acc 0 0 1 s8.2.length true), (l_LB a0), (.int .i64 (a0.length : Int)), (.int .i64 s8.1)], [(some (.cells (F_B s8.2) false true))])
def fin_slices_Concat_byte_byte_L1 (a0 : List (List UInt8)) : (List UInt8) → Ex × Fast × WH := fun e => ((.exit 2), [(6, (.acc 0 0 1 e.length true))], [(some (.cells (F_B e) false true))])
abbrev rx_slices_Concat_byte_byte_L1 (a0 : List (List UInt8)) := roundX [6, 25, 26, 27] (st_slices_Concat_byte_byte_L1 a0) (fin_slices_Concat_byte_byte_L1 a0)
def slices_Concat_byte_byte_L1_s (a0 : List (List UInt8)) (s8 : Int × List UInt8) : Option ((Int × List UInt8) ⊕ ((List UInt8))) :=
  cond (decide (s8.1 < (a0.length : Int))) ((getI a0 s8.1).bind fun (x9 : List UInt8) => gd (fitsB 1 (s8.2 ++ x9).length) (some (.inl ((IntKind.i64.wrap (s8.1 + 1)), (s8.2 ++ x9))))) (some (.inr s8.2))
def slices_Concat_byte_byte_L1 (a0 : List (List UInt8)) (s8 : Int × List UInt8) : Option ((List UInt8)) := loopX (slices_Concat_byte_byte_L1_s a0) KK s8
theorem b_slices_Concat_byte_byte_L1 (d : Nat) {a0 : List (List UInt8)} {s8 : Int × List UInt8} {r : (Int × List UInt8) ⊕ ((List UInt8))} (h : slices_Concat_byte_byte_L1_s a0 s8 = some r) : RunX (bexec (wcalls atab (d + 0)) KK 36 WB82_1) 0 (inL [6, 25, 26, 27] (st_slices_Concat_byte_byte_L1 a0 s8)) (rx_slices_Concat_byte_byte_L1 a0 r) := by
  obtain ⟨x9, hx9⟩ := wx (getI a0 s8.1)
  have e : ∀ C : ACalls, wCode C (fun _ => none) KK 36 0 WB82_1 (inL [6, 25, 26, 27] (st_slices_Concat_byte_byte_L1 a0 s8)).1 (inL [6, 25, 26, 27] (st_slices_Concat_byte_byte_L1 a0 s8)).2 (.br 28 (.v 29 (.elem ([(l_B x9)] ++ F_LB (a0.drop (s8.1.toNat + 1)))) (.ap 33 (s8.2 ++ x9).length (F_B (s8.2 ++ x9)) (.en [6, 25, 26, 27] [none, none, none, none] [] []))) (.en [6] [none] [] [])) (rx_slices_Concat_byte_byte_L1 a0 r) = (((decide (s8.1 < (a0.length : Int))) = true → (wP (.idxSlice 1 (.c (l_LB a0)) (.c (.int .i64 s8.1))) = some (.elem ([(l_B x9)] ++ F_LB (a0.drop (s8.1.toNat + 1)))) ∧ (s8.2.length + x9.length = (s8.2 ++ x9).length ∧ (F_B s8.2 ++ F_B x9 = F_B (s8.2 ++ x9) ∧ (fitsB 1 (s8.2 ++ x9).length = true ∧ lfe (rx_slices_Concat_byte_byte_L1 a0) (.inl ((IntKind.i64.wrap (s8.1 + 1)), (s8.2 ++ x9))) r))))) ∧ ((decide (s8.1 < (a0.length : Int))) = false → lfe (rx_slices_Concat_byte_byte_L1 a0) (.inr s8.2) r)) := fun C => by kernel_rfl
  refine runS_of (fun _ _ h => by cases h) WB82_1_ok (Nat.le_of_ble_eq_true rfl) ((e _).mpr ?_)
  unfold slices_Concat_byte_byte_L1_s at h
  refine ⟨fun hb => ?_, fun hb => ?_⟩
  · have h := cond_t hb h
    obtain ⟨q9, h⟩ := bget hx9 h
    refine ⟨wP_idx R_LB q9, ?_⟩
    obtain ⟨q10, h⟩ := gd_some h
    refine ⟨app_len _ _, ?_⟩
    refine ⟨(Row.app R_B _ _).symm, ?_⟩
    refine ⟨q10, ?_⟩
    exact lfe_of h
  · have h := cond_f hb h
    exact lfe_of h
theorem s_slices_Concat_byte_byte_L1 (d : Nat) {a0 : List (List UInt8)} {s8 : Int × List UInt8} {r : (List UInt8)} (h : slices_Concat_byte_byte_L1 a0 s8 = some r) : RunX (bloop (bexec (wcalls atab (d + 0)) KK 36 WB82_1) [6, 25, 26, 27] KK) 0 (inL [6, 25, 26, 27] (st_slices_Concat_byte_byte_L1 a0 s8)) (fin_slices_Concat_byte_byte_L1 a0 r) :=
  loop_of (st := st_slices_Concat_byte_byte_L1 a0) (fin := fin_slices_Concat_byte_byte_L1 a0) (step := slices_Concat_byte_byte_L1_s a0) (fun e => by (intro h; cases h)) (fun s x h => b_slices_Concat_byte_byte_L1 d h) KK s8 r h

def slices_Concat_byte_byte (a0 : List (List UInt8)) : Option (List UInt8) :=
  (slices_Concat_byte_byte_L0 a0 (0, 0)).bind fun (x4 : Int) => gd (growB 1 x4) ((slices_Concat_byte_byte_L1 a0 (0, ([] : List UInt8))).bind fun (x11 : (List UInt8)) => some x11)
def out_slices_Concat_byte_byte (a0 : List (List UInt8)) (r : List UInt8) : AV × WH := ((l_B r), [])

theorem s_slices_Concat_byte_byte (d : Nat) {a0 : List (List UInt8)} {r : List UInt8} (h : slices_Concat_byte_byte a0 = some r) : Spec (wcalls atab (d + 2)) 82 [(l_LB a0)] [] (out_slices_Concat_byte_byte a0 r).1 (out_slices_Concat_byte_byte a0 r).2 := by
  obtain ⟨x4, hx4⟩ := wx (slices_Concat_byte_byte_L0 a0 (0, 0))
  obtain ⟨x11, hx11⟩ := wx (slices_Concat_byte_byte_L1 a0 (0, ([] : List UInt8)))
  have e : ∀ C : ACalls, wBody C wB KK WF82 [(l_LB a0)] [] (.lp [none, none, none, none, none] [] [] (.exit 0) [(0, (l_LB a0)), (3, (.int .i64 x4))] [] (.lp [none, none, none, none] [] [] (.exit 2) [(6, (.acc 0 0 1 x11.length true))] [(some (.cells (F_B x11) false true))] (.fin (some false) [] none))) (out_slices_Concat_byte_byte a0 r).1 (out_slices_Concat_byte_byte a0 r).2 = (1 = 1 ∧ 1 ≤ 36 ∧ (RunS (bloop (bexec C KK 36 WB82_0) [0, 3, 9, 10, 11] KK) 0 [(0, (l_LB a0)), (3, (.int .i64 0)), (9, (l_LB a0)), (10, (.int .i64 (a0.length : Int))), (11, (.int .i64 0))] [] (.exit 0) [(0, (l_LB a0)), (3, (.int .i64 x4))] [] ∧ ((0 ≤ x4 ∧ x4 ≤ 70368744177664 ∧ 1 * (x4).toNat ≤ 281474976710656 ∧ (x4).toNat * 1 ≤ 70368744177664) ∧ (RunS (bloop (bexec C KK 36 WB82_1) [6, 25, 26, 27] KK) 0 [(6, (.acc 0 0 1 0 true)), (25, (l_LB a0)), (26, (.int .i64 (a0.length : Int))), (27, (.int .i64 0))] [(some (.cells (F_B ([] : List UInt8)) false true))] (.exit 2) [(6, (.acc 0 0 1 x11.length true))] [(some (.cells (F_B x11) false true))] ∧ lff (out_slices_Concat_byte_byte a0) x11 r)))) := fun C => by kernel_rfl
  refine spec_of (wB_ok _) rfl atab_82 WF82_ok ((e _).mpr ⟨rfl, by decide, ?_⟩)
  unfold slices_Concat_byte_byte at h
  obtain ⟨q4, h⟩ := bget hx4 h
  refine ⟨s_slices_Concat_byte_byte_L0 (d + 1) q4, ?_⟩
  obtain ⟨q5, h⟩ := gd_some h
  refine ⟨of_decide_eq_true q5, ?_⟩
  obtain ⟨q11, h⟩ := bget hx11 h
  refine ⟨s_slices_Concat_byte_byte_L1 (d + 1) q11, ?_⟩
  exact lff_of h

/- (*osmosis/disk.Disk).Append -/
def disk_Disk_Append (parts : List (List UInt8)) (p_d : Int) : Option (Bool × List UInt8) :=
  (slices_Concat_byte_byte parts).bind fun (x1 : List UInt8) => cond (decide ((IntKind.i64.wrap (0 + (x1.length : Int))) > 65536)) (some (false, [])) (gd (fitsB 1 x1.length) (some (true, x1)))
def out_disk_Disk_Append (parts : List (List UInt8)) (p_d : Int) (r : Bool × List UInt8) : AV × WH := ((.bool r.1), [(some (.cells [(.acc 1 0 1 r.2.length true), (.int .i64 p_d)] false false)), (some (.cells (F_B r.2) false true))])

theorem s_disk_Disk_Append (d : Nat) {parts : List (List UInt8)} {p_d : Int} {r : Bool × List UInt8} (h : disk_Disk_Append parts p_d = some r) : Spec (wcalls atab (d + 3)) 55 [(.ptr (some (0, 0))), (l_LB parts)] [(some (.cells [(.slice none 1 0 0 true), (.int .i64 p_d)] false false))] (out_disk_Disk_Append parts p_d r).1 (out_disk_Disk_Append parts p_d r).2 := by
  obtain ⟨x1, hx1⟩ := wx (slices_Concat_byte_byte parts)
  have e : ∀ C : ACalls, wBody C (fun _ => none) KK WF55 [(.ptr (some (0, 0))), (l_LB parts)] [(some (.cells [(.slice none 1 0 0 true), (.int .i64 p_d)] false false))] (.call [] (some false) [] (l_B x1) [] (.br 16 (.fin (some false) [] (some true)) (.ap 23 x1.length (F_B x1) (.st none (.fin (some false) [] (some true)))))) (out_disk_Disk_Append parts p_d r).1 (out_disk_Disk_Append parts p_d r).2 = (2 = 2 ∧ 2 ≤ 26 ∧ (Spec C 82 [(l_LB parts)] [] (l_B x1) [] ∧ (0 ≤ 0 ∧ (((decide ((IntKind.i64.wrap (0 + (x1.length : Int))) > 65536)) = true → (@Eq AV (.bool false) (out_disk_Disk_Append parts p_d r).1 ∧ @Eq WH [(some (.cells [(.acc 1 0 1 0 true), (.int .i64 p_d)] false false)), (some (.cells (F_B []) false true))] (out_disk_Disk_Append parts p_d r).2)) ∧ ((decide ((IntKind.i64.wrap (0 + (x1.length : Int))) > 65536)) = false → (0 + x1.length = x1.length ∧ (F_B [] ++ F_B x1 = F_B x1 ∧ (fitsB 1 x1.length = true ∧ lff (out_disk_Disk_Append parts p_d) (true, x1) r)))))))) := fun C => by kernel_rfl
  refine spec_of (fun _ _ h => by cases h) rfl atab_55 WF55_ok ((e _).mpr ⟨rfl, by decide, ?_⟩)
  unfold disk_Disk_Append at h
  obtain ⟨q1, h⟩ := bget hx1 h
  refine ⟨s_slices_Concat_byte_byte (d + 0) q1, ?_⟩
  refine ⟨by decide, ?_⟩
  refine ⟨fun hb => ?_, fun hb => ?_⟩
  · have h := cond_t hb h
    obtain rfl := Option.some.inj h
    refine ⟨?_, ?_⟩ <;> first | rfl | (simp only [out_disk_Disk_Append, List.length_set, List.length_append, List.length_replicate, List.length_cons, List.length_nil, List.length_take, List.length_drop, Nat.add_zero, Nat.zero_add]; done) | simp [out_disk_Disk_Append]
  · have h := cond_f hb h
    obtain ⟨q2, h⟩ := gd_some h
    refine ⟨by simp, ?_⟩
    refine ⟨by first | rfl | simp [F_B], ?_⟩
    refine ⟨q2, ?_⟩
    exact lff_of h

/- (*osmosis/disk.Disk).Sync -/
def disk_Disk_Sync (p_d : Int) (p_b1 : List UInt8) : Option (Int × Int) :=
  some ((IntKind.i64.wrap ((p_b1.length : Int) - p_d)), (p_b1.length : Int))
def out_disk_Disk_Sync (p_d : Int) (p_b1 : List UInt8) (r : Int × Int) : AV × WH := ((.int .i64 r.1), [(some (.cells [(.acc 1 0 1 p_b1.length true), (.int .i64 r.2)] false false)), (some (.cells (F_B p_b1) false true))])

theorem s_disk_Disk_Sync (d : Nat) {p_d : Int} {p_b1 : List UInt8} {r : Int × Int} (h : disk_Disk_Sync p_d p_b1 = some r) : Spec (wcalls atab (d + 1)) 56 [(.ptr (some (0, 0)))] [(some (.cells [(.acc 1 0 1 p_b1.length true), (.int .i64 p_d)] false false)), (some (.cells (F_B p_b1) false true))] (out_disk_Disk_Sync p_d p_b1 r).1 (out_disk_Disk_Sync p_d p_b1 r).2 := by
  have e : ∀ C : ACalls, wBody C (fun _ => none) KK WF56 [(.ptr (some (0, 0)))] [(some (.cells [(.acc 1 0 1 p_b1.length true), (.int .i64 p_d)] false false)), (some (.cells (F_B p_b1) false true))] (.st none (.fin (some false) [] none)) (out_disk_Disk_Sync p_d p_b1 r).1 (out_disk_Disk_Sync p_d p_b1 r).2 = (1 = 1 ∧ 1 ≤ 23 ∧ lff (out_disk_Disk_Sync p_d p_b1) ((IntKind.i64.wrap ((p_b1.length : Int) - p_d)), (p_b1.length : Int)) r) := fun C => by kernel_rfl
  refine spec_of (fun _ _ h => by cases h) rfl atab_56 WF56_ok ((e _).mpr ⟨rfl, by decide, ?_⟩)
  unfold disk_Disk_Sync at h
  exact lff_of h

/- (*osmosis/disk.Disk).Append -/
def disk_Disk_Append_2 (parts : List (List UInt8)) (p_d : Int) (p_b1 : List UInt8) : Option (Bool × List UInt8) :=
  (slices_Concat_byte_byte parts).bind fun (x1 : List UInt8) => cond (decide ((IntKind.i64.wrap ((p_b1.length : Int) + (x1.length : Int))) > 65536)) (some (false, p_b1)) (gd (fitsB 1 (p_b1 ++ x1).length) (some (true, (p_b1 ++ x1))))
def out_disk_Disk_Append_2 (parts : List (List UInt8)) (p_d : Int) (p_b1 : List UInt8) (r : Bool × List UInt8) : AV × WH := ((.bool r.1), [(some (.cells [(.acc 2 0 1 r.2.length true), (.int .i64 p_d)] false false)), none, (some (.cells (F_B r.2) false true))])

theorem s_disk_Disk_Append_2 (d : Nat) {parts : List (List UInt8)} {p_d : Int} {p_b1 : List UInt8} {r : Bool × List UInt8} (h : disk_Disk_Append_2 parts p_d p_b1 = some r) : Spec (wcalls atab (d + 3)) 55 [(.ptr (some (0, 0))), (l_LB parts)] [(some (.cells [(.acc 1 0 1 p_b1.length true), (.int .i64 p_d)] false false)), (some (.cells (F_B p_b1) false true))] (out_disk_Disk_Append_2 parts p_d p_b1 r).1 (out_disk_Disk_Append_2 parts p_d p_b1 r).2 := by
  obtain ⟨x1, hx1⟩ := wx (slices_Concat_byte_byte parts)
  have e : ∀ C : ACalls, wBody C (fun _ => none) KK WF55 [(.ptr (some (0, 0))), (l_LB parts)] [(some (.cells [(.acc 1 0 1 p_b1.length true), (.int .i64 p_d)] false false)), (some (.cells (F_B p_b1) false true))] (.call [] (some false) [] (l_B x1) [] (.br 16 (.fin (some false) [] (some true)) (.ap 23 (p_b1 ++ x1).length (F_B (p_b1 ++ x1)) (.st none (.fin (some false) [] (some true)))))) (out_disk_Disk_Append_2 parts p_d p_b1 r).1 (out_disk_Disk_Append_2 parts p_d p_b1 r).2 = (2 = 2 ∧ 2 ≤ 26 ∧ (Spec C 82 [(l_LB parts)] [] (l_B x1) [] ∧ (0 ≤ 0 ∧ (((decide ((IntKind.i64.wrap ((p_b1.length : Int) + (x1.length : Int))) > 65536)) = true → lff (out_disk_Disk_Append_2 parts p_d p_b1) (false, p_b1) r) ∧ ((decide ((IntKind.i64.wrap ((p_b1.length : Int) + (x1.length : Int))) > 65536)) = false → (p_b1.length + x1.length = (p_b1 ++ x1).length ∧ (F_B p_b1 ++ F_B x1 = F_B (p_b1 ++ x1) ∧ (fitsB 1 (p_b1 ++ x1).length = true ∧ lff (out_disk_Disk_Append_2 parts p_d p_b1) (true, (p_b1 ++ x1)) r)))))))) := fun C => by kernel_rfl
  refine spec_of (fun _ _ h => by cases h) rfl atab_55 WF55_ok ((e _).mpr ⟨rfl, by decide, ?_⟩)
  unfold disk_Disk_Append_2 at h
  obtain ⟨q1, h⟩ := bget hx1 h
  refine ⟨s_slices_Concat_byte_byte (d + 0) q1, ?_⟩
  refine ⟨by decide, ?_⟩
  refine ⟨fun hb => ?_, fun hb => ?_⟩
  · have h := cond_t hb h
    exact lff_of h
  · have h := cond_f hb h
    obtain ⟨q2, h⟩ := gd_some h
    refine ⟨app_len _ _, ?_⟩
    refine ⟨(Row.app R_B _ _).symm, ?_⟩
    refine ⟨q2, ?_⟩
    exact lff_of h

/- (*osmosis/disk.Disk).Crash -/
def disk_Disk_Crash (keep : Int) (p_d : Int) (p_b1 : List UInt8) : Option (Int × Int × List UInt8) :=
  (slI p_b1 0 (IntKind.i64.wrap (p_d + (if (if (IntKind.i64.wrap ((p_b1.length : Int) - p_d)) < keep then (IntKind.i64.wrap ((p_b1.length : Int) - p_d)) else keep) > 0 then (if (IntKind.i64.wrap ((p_b1.length : Int) - p_d)) < keep then (IntKind.i64.wrap ((p_b1.length : Int) - p_d)) else keep) else 0)))).bind fun (x1 : List UInt8) => some ((if (if (IntKind.i64.wrap ((p_b1.length : Int) - p_d)) < keep then (IntKind.i64.wrap ((p_b1.length : Int) - p_d)) else keep) > 0 then (if (IntKind.i64.wrap ((p_b1.length : Int) - p_d)) < keep then (IntKind.i64.wrap ((p_b1.length : Int) - p_d)) else keep) else 0), (IntKind.i64.wrap (p_d + (if (if (IntKind.i64.wrap ((p_b1.length : Int) - p_d)) < keep then (IntKind.i64.wrap ((p_b1.length : Int) - p_d)) else keep) > 0 then (if (IntKind.i64.wrap ((p_b1.length : Int) - p_d)) < keep then (IntKind.i64.wrap ((p_b1.length : Int) - p_d)) else keep) else 0))), x1)
def out_disk_Disk_Crash (keep : Int) (p_d : Int) (p_b1 : List UInt8) (r : Int × Int × List UInt8) : AV × WH := ((.int .i64 r.1), [(some (.cells [(.acc 2 0 1 r.2.2.length true), (.int .i64 r.2.1)] false false)), none, (some (.cells (F_B r.2.2) false true))])

theorem s_disk_Disk_Crash (d : Nat) {keep : Int} {p_d : Int} {p_b1 : List UInt8} {r : Int × Int × List UInt8} (h : disk_Disk_Crash keep p_d p_b1 = some r) : Spec (wcalls atab (d + 1)) 59 [(.ptr (some (0, 0))), (.int .i64 keep)] [(some (.cells [(.acc 1 0 1 p_b1.length true), (.int .i64 p_d)] false false)), (some (.cells (F_B p_b1) false true))] (out_disk_Disk_Crash keep p_d p_b1 r).1 (out_disk_Disk_Crash keep p_d p_b1 r).2 := by
  obtain ⟨x1, hx1⟩ := wx (slI p_b1 0 (IntKind.i64.wrap (p_d + (if (if (IntKind.i64.wrap ((p_b1.length : Int) - p_d)) < keep then (IntKind.i64.wrap ((p_b1.length : Int) - p_d)) else keep) > 0 then (if (IntKind.i64.wrap ((p_b1.length : Int) - p_d)) < keep then (IntKind.i64.wrap ((p_b1.length : Int) - p_d)) else keep) else 0))))
  have e : ∀ C : ACalls, wBody C (fun _ => none) KK WF59 [(.ptr (some (0, 0))), (.int .i64 keep)] [(some (.cells [(.acc 1 0 1 p_b1.length true), (.int .i64 p_d)] false false)), (some (.cells (F_B p_b1) false true))] (.st none (.v 35 (.acc 1 0 1 x1.length false) (.st none (.fin (some false) [] (some true))))) (out_disk_Disk_Crash keep p_d p_b1 r).1 (out_disk_Disk_Crash keep p_d p_b1 r).2 = (2 = 2 ∧ 2 ≤ 39 ∧ (wP (.slice 1 (.c (.acc 1 0 1 p_b1.length true)) none (some (.c (.int .i64 (IntKind.i64.wrap (p_d + (if (if (IntKind.i64.wrap ((p_b1.length : Int) - p_d)) < keep then (IntKind.i64.wrap ((p_b1.length : Int) - p_d)) else keep) > 0 then (if (IntKind.i64.wrap ((p_b1.length : Int) - p_d)) < keep then (IntKind.i64.wrap ((p_b1.length : Int) - p_d)) else keep) else 0)))))) none) = some (.acc 1 0 1 x1.length false) ∧ (@Eq AV (.int .i64 (if (if (IntKind.i64.wrap ((p_b1.length : Int) - p_d)) < keep then (IntKind.i64.wrap ((p_b1.length : Int) - p_d)) else keep) > 0 then (if (IntKind.i64.wrap ((p_b1.length : Int) - p_d)) < keep then (IntKind.i64.wrap ((p_b1.length : Int) - p_d)) else keep) else 0)) (out_disk_Disk_Crash keep p_d p_b1 r).1 ∧ @Eq WH [(some (.cells [(.acc 2 0 1 x1.length true), (.int .i64 (IntKind.i64.wrap (p_d + (if (if (IntKind.i64.wrap ((p_b1.length : Int) - p_d)) < keep then (IntKind.i64.wrap ((p_b1.length : Int) - p_d)) else keep) > 0 then (if (IntKind.i64.wrap ((p_b1.length : Int) - p_d)) < keep then (IntKind.i64.wrap ((p_b1.length : Int) - p_d)) else keep) else 0))))] false false)), none, (some (.cells ((F_B p_b1).take (x1.length * 1)) false true))] (out_disk_Disk_Crash keep p_d p_b1 r).2))) := fun C => by kernel_rfl
  refine spec_of (fun _ _ h => by cases h) rfl atab_59 WF59_ok ((e _).mpr ⟨rfl, by decide, ?_⟩)
  unfold disk_Disk_Crash at h
  obtain ⟨q1, h⟩ := bget hx1 h
  refine ⟨wP_slA_h R_B q1, ?_⟩
  try rw [take_row R_B q1]
  try rw [part_row0 R_B q1]
  obtain rfl := Option.some.inj h
  refine ⟨?_, ?_⟩ <;> first | rfl | (simp only [out_disk_Disk_Crash, List.length_set, List.length_append, List.length_replicate, List.length_cons, List.length_nil, List.length_take, List.length_drop, Nat.add_zero, Nat.zero_add]; done) | simp [out_disk_Disk_Crash]

/- (*osmosis/disk.Disk).Bytes -/
def disk_Disk_Bytes (p_d : Int) (p_b1 : List UInt8) : Option (List UInt8) :=
  gd (fitsB 1 p_b1.length) (some p_b1)
def out_disk_Disk_Bytes (p_d : Int) (p_b1 : List UInt8) (r : List UInt8) : AV × WH := ((l_B r), [(some (.cells [(.acc 1 0 1 p_b1.length true), (.int .i64 p_d)] false false)), (some (.cells (F_B p_b1) false true))])

theorem s_disk_Disk_Bytes (d : Nat) {p_d : Int} {p_b1 : List UInt8} {r : List UInt8} (h : disk_Disk_Bytes p_d p_b1 = some r) : Spec (wcalls atab (d + 2)) 60 [(.ptr (some (0, 0)))] [(some (.cells [(.acc 1 0 1 p_b1.length true), (.int .i64 p_d)] false false)), (some (.cells (F_B p_b1) false true))] (out_disk_Disk_Bytes p_d p_b1 r).1 (out_disk_Disk_Bytes p_d p_b1 r).2 := by
  have e : ∀ C : ACalls, wBody C wB KK WF60 [(.ptr (some (0, 0)))] [(some (.cells [(.acc 1 0 1 p_b1.length true), (.int .i64 p_d)] false false)), (some (.cells (F_B p_b1) false true))] (.fin (some false) [] none) (out_disk_Disk_Bytes p_d p_b1 r).1 (out_disk_Disk_Bytes p_d p_b1 r).2 = (1 = 1 ∧ 1 ≤ 9 ∧ (fitsB 1 p_b1.length = true ∧ lff (out_disk_Disk_Bytes p_d p_b1) p_b1 r)) := fun C => by kernel_rfl
  refine spec_of (wB_ok _) rfl atab_60 WF60_ok ((e _).mpr ⟨rfl, by decide, ?_⟩)
  unfold disk_Disk_Bytes at h
  obtain ⟨q1, h⟩ := gd_some h
  refine ⟨q1, ?_⟩
  exact lff_of h

/- (*osmosis/disk.Disk).Synced -/
def disk_Disk_Synced (p_d : Int) (p_b1 : List UInt8) : Option (Int) :=
  some p_d
def out_disk_Disk_Synced (p_d : Int) (p_b1 : List UInt8) (r : Int) : AV × WH := ((.int .i64 r), [(some (.cells [(.acc 1 0 1 p_b1.length true), (.int .i64 p_d)] false false)), (some (.cells (F_B p_b1) false true))])

theorem s_disk_Disk_Synced (d : Nat) {p_d : Int} {p_b1 : List UInt8} {r : Int} (h : disk_Disk_Synced p_d p_b1 = some r) : Spec (wcalls atab (d + 1)) 58 [(.ptr (some (0, 0)))] [(some (.cells [(.acc 1 0 1 p_b1.length true), (.int .i64 p_d)] false false)), (some (.cells (F_B p_b1) false true))] (out_disk_Disk_Synced p_d p_b1 r).1 (out_disk_Disk_Synced p_d p_b1 r).2 := by
  have e : ∀ C : ACalls, wBody C (fun _ => none) KK WF58 [(.ptr (some (0, 0)))] [(some (.cells [(.acc 1 0 1 p_b1.length true), (.int .i64 p_d)] false false)), (some (.cells (F_B p_b1) false true))] (.fin (some false) [] none) (out_disk_Disk_Synced p_d p_b1 r).1 (out_disk_Disk_Synced p_d p_b1 r).2 = (1 = 1 ∧ 1 ≤ 7 ∧ lff (out_disk_Disk_Synced p_d p_b1) p_d r) := fun C => by kernel_rfl
  refine spec_of (fun _ _ h => by cases h) rfl atab_58 WF58_ok ((e _).mpr ⟨rfl, by decide, ?_⟩)
  unfold disk_Disk_Synced at h
  exact lff_of h

/- osmosis/osmosislaw4.known -/
def osmosislaw4_known  : Option (Bool) :=
  (disk_New).bind fun (x1 : Int) => (disk_Disk_Append ([[(97 : UInt8), (98 : UInt8)]]) x1).bind fun (x2 : Bool × List UInt8) => (disk_Disk_Sync x1 x2.2).bind fun (x3 : Int × Int) => (disk_Disk_Append_2 ([[(99 : UInt8), (100 : UInt8)]]) x3.2 x2.2).bind fun (x4 : Bool × List UInt8) => (disk_Disk_Crash 1 x3.2 x4.2).bind fun (x5 : Int × Int × List UInt8) => cond (x3.1 == 2) (cond (x5.1 == 1) ((disk_Disk_Bytes x5.2.1 x5.2.2).bind fun (x6 : List UInt8) => cond (x6 == ([97, 98, 99])) ((disk_Disk_Synced x5.2.1 x5.2.2).bind fun (x7 : Int) => some (x7 == 3)) (some false)) (some false)) (some false)
def out_osmosislaw4_known (r : Bool) : AV × WH := ((.bool r), [])

theorem s_osmosislaw4_known (d : Nat)  {r : Bool} (h : osmosislaw4_known = some r) : Spec (wcalls atab (d + 4)) 53 [] [] (out_osmosislaw4_known r).1 (out_osmosislaw4_known r).2 := by
  obtain ⟨x1, hx1⟩ := wx (disk_New)
  obtain ⟨x2, hx2⟩ := wx (disk_Disk_Append ([[(97 : UInt8), (98 : UInt8)]]) x1)
  obtain ⟨x3, hx3⟩ := wx (disk_Disk_Sync x1 x2.2)
  obtain ⟨x4, hx4⟩ := wx (disk_Disk_Append_2 ([[(99 : UInt8), (100 : UInt8)]]) x3.2 x2.2)
  obtain ⟨x5, hx5⟩ := wx (disk_Disk_Crash 1 x3.2 x4.2)
  obtain ⟨x6, hx6⟩ := wx (disk_Disk_Bytes x5.2.1 x5.2.2)
  obtain ⟨x7, hx7⟩ := wx (disk_Disk_Synced x5.2.1 x5.2.2)
  have e : ∀ C : ACalls, wBody C (fun _ => none) KK WF53 [] [] (.call [] (some false) [] (.ptr (some (0, 0))) [(some (.cells [(.slice none 1 0 0 true), (.int .i64 x1)] false false))] (.call [] none [] (.bool x2.1) [(some (.cells [(.acc 1 0 1 x2.2.length true), (.int .i64 x1)] false false)), (some (.cells (F_B x2.2) false true))] (.call [] none [] (.int .i64 x3.1) [(some (.cells [(.acc 1 0 1 x2.2.length true), (.int .i64 x3.2)] false false)), (some (.cells (F_B x2.2) false true))] (.call [] none [] (.bool x4.1) [(some (.cells [(.acc 2 0 1 x4.2.length true), (.int .i64 x3.2)] false false)), none, (some (.cells (F_B x4.2) false true))] (.call [] none [] (.int .i64 x5.1) [(some (.cells [(.acc 2 0 1 x5.2.2.length true), (.int .i64 x5.2.1)] false false)), none, (some (.cells (F_B x5.2.2) false true))] (.br 23 (.br 27 (.call [] none [] (l_B x6) [(some (.cells [(.acc 1 0 1 x5.2.2.length true), (.int .i64 x5.2.1)] false false)), (some (.cells (F_B x5.2.2) false true))] (.v 30 (.str x6) (.br 33 (.call [] none [] (.int .i64 x7) [(some (.cells [(.acc 1 0 1 x5.2.2.length true), (.int .i64 x5.2.1)] false false)), (some (.cells (F_B x5.2.2) false true))] (.fin (some false) [] none)) (.fin (some false) [] none)))) (.fin (some false) [] none)) (.fin (some false) [] none))))))) (out_osmosislaw4_known r).1 (out_osmosislaw4_known r).2 = (0 = 0 ∧ 0 ≤ 38 ∧ (Spec C 52 [] [] (.ptr (some (0, 0))) [(some (.cells [(.slice none 1 0 0 true), (.int .i64 x1)] false false))] ∧ (0 ≤ 1 ∧ (Spec C 55 [(.ptr (some (0, 0))), (l_LB ([[(97 : UInt8), (98 : UInt8)]]))] [(some (.cells [(.slice none 1 0 0 true), (.int .i64 x1)] false false))] (.bool x2.1) [(some (.cells [(.acc 1 0 1 x2.2.length true), (.int .i64 x1)] false false)), (some (.cells (F_B x2.2) false true))] ∧ (1 ≤ 2 ∧ (Spec C 56 [(.ptr (some (0, 0)))] [(some (.cells [(.acc 1 0 1 x2.2.length true), (.int .i64 x1)] false false)), (some (.cells (F_B x2.2) false true))] (.int .i64 x3.1) [(some (.cells [(.acc 1 0 1 x2.2.length true), (.int .i64 x3.2)] false false)), (some (.cells (F_B x2.2) false true))] ∧ (2 ≤ 2 ∧ (Spec C 55 [(.ptr (some (0, 0))), (l_LB ([[(99 : UInt8), (100 : UInt8)]]))] [(some (.cells [(.acc 1 0 1 x2.2.length true), (.int .i64 x3.2)] false false)), (some (.cells (F_B x2.2) false true))] (.bool x4.1) [(some (.cells [(.acc 2 0 1 x4.2.length true), (.int .i64 x3.2)] false false)), none, (some (.cells (F_B x4.2) false true))] ∧ (2 ≤ 3 ∧ (Spec C 59 [(.ptr (some (0, 0))), (.int .i64 1)] [(some (.cells [(.acc 1 0 1 x4.2.length true), (.int .i64 x3.2)] false false)), (some (.cells (F_B x4.2) false true))] (.int .i64 x5.1) [(some (.cells [(.acc 2 0 1 x5.2.2.length true), (.int .i64 x5.2.1)] false false)), none, (some (.cells (F_B x5.2.2) false true))] ∧ (2 ≤ 3 ∧ (((x3.1 == 2) = true → (((x5.1 == 1) = true → (Spec C 60 [(.ptr (some (0, 0)))] [(some (.cells [(.acc 1 0 1 x5.2.2.length true), (.int .i64 x5.2.1)] false false)), (some (.cells (F_B x5.2.2) false true))] (l_B x6) [(some (.cells [(.acc 1 0 1 x5.2.2.length true), (.int .i64 x5.2.1)] false false)), (some (.cells (F_B x5.2.2) false true))] ∧ (2 ≤ 2 ∧ ((toBytes (F_B x6)).map AV.str = some (.str x6) ∧ (((x6 == ([97, 98, 99])) = true → (Spec C 58 [(.ptr (some (0, 0)))] [(some (.cells [(.acc 1 0 1 x5.2.2.length true), (.int .i64 x5.2.1)] false false)), (some (.cells (F_B x5.2.2) false true))] (.int .i64 x7) [(some (.cells [(.acc 1 0 1 x5.2.2.length true), (.int .i64 x5.2.1)] false false)), (some (.cells (F_B x5.2.2) false true))] ∧ (2 ≤ 2 ∧ lff out_osmosislaw4_known (x7 == 3) r))) ∧ ((x6 == ([97, 98, 99])) = false → lff out_osmosislaw4_known false r)))))) ∧ ((x5.1 == 1) = false → lff out_osmosislaw4_known false r))) ∧ ((x3.1 == 2) = false → lff out_osmosislaw4_known false r))))))))))))) := fun C => by kernel_rfl
  refine spec_of (fun _ _ h => by cases h) rfl atab_53 WF53_ok ((e _).mpr ⟨rfl, by decide, ?_⟩)
  unfold osmosislaw4_known at h
  obtain ⟨q1, h⟩ := bget hx1 h
  refine ⟨s_disk_New (d + 2) q1, ?_⟩
  refine ⟨by decide, ?_⟩
  obtain ⟨q2, h⟩ := bget hx2 h
  refine ⟨s_disk_Disk_Append (d + 0) q2, ?_⟩
  refine ⟨by decide, ?_⟩
  obtain ⟨q3, h⟩ := bget hx3 h
  refine ⟨s_disk_Disk_Sync (d + 2) q3, ?_⟩
  refine ⟨by decide, ?_⟩
  obtain ⟨q4, h⟩ := bget hx4 h
  refine ⟨s_disk_Disk_Append_2 (d + 0) q4, ?_⟩
  refine ⟨by decide, ?_⟩
  obtain ⟨q5, h⟩ := bget hx5 h
  refine ⟨s_disk_Disk_Crash (d + 2) q5, ?_⟩
  refine ⟨by decide, ?_⟩
  refine ⟨fun hb => ?_, fun hb => ?_⟩
  · have h := cond_t hb h
    refine ⟨fun hb => ?_, fun hb => ?_⟩
    · have h := cond_t hb h
      obtain ⟨q6, h⟩ := bget hx6 h
      refine ⟨s_disk_Disk_Bytes (d + 1) q6, ?_⟩
      refine ⟨by decide, ?_⟩
      refine ⟨by rw [show F_B x6 = (x6).map byteC from rfl, toBytes_map]; rfl, ?_⟩
      refine ⟨fun hb => ?_, fun hb => ?_⟩
      · have h := cond_t hb h
        obtain ⟨q7, h⟩ := bget hx7 h
        refine ⟨s_disk_Disk_Synced (d + 2) q7, ?_⟩
        refine ⟨by decide, ?_⟩
        exact lff_of h
      · have h := cond_f hb h
        exact lff_of h
    · have h := cond_f hb h
      exact lff_of h
  · have h := cond_f hb h
    exact lff_of h

/- osmosis/osmosishand.Few -/
def osmosishand_Few (p_b : List UInt8) (n : Int) : Option (List UInt8) :=
  cond (decide ((p_b.length : Int) > n)) ((slI p_b 0 n).bind fun (x1 : List UInt8) => gd (fitsB 1 x1.length) (some x1)) (gd (fitsB 1 p_b.length) (some p_b))
def out_osmosishand_Few (p_b : List UInt8) (n : Int) (r : List UInt8) : AV × WH := ((l_B r), [])

theorem s_osmosishand_Few (d : Nat) {p_b : List UInt8} {n : Int} {r : List UInt8} (h : osmosishand_Few p_b n = some r) : Spec (wcalls atab (d + 1)) 81 [(l_B p_b), (.int .i64 n)] [] (out_osmosishand_Few p_b n r).1 (out_osmosishand_Few p_b n r).2 := by
  obtain ⟨x1, hx1⟩ := wx (slI p_b 0 n)
  have e : ∀ C : ACalls, wBody C (fun _ => none) KK WF81 [(l_B p_b), (.int .i64 n)] [] (.br 8 (.v 11 (l_B x1) (.ap 14 x1.length (F_B x1) (.fin (some false) [] none))) (.ap 14 p_b.length (F_B p_b) (.fin (some false) [] none))) (out_osmosishand_Few p_b n r).1 (out_osmosishand_Few p_b n r).2 = (2 = 2 ∧ 2 ≤ 15 ∧ (((decide ((p_b.length : Int) > n)) = true → (wP (.slice 1 (.c (l_B p_b)) none (some (.c (.int .i64 n))) none) = some (l_B x1) ∧ (0 + x1.length = x1.length ∧ (F_B [] ++ F_B x1 = F_B x1 ∧ (fitsB 1 x1.length = true ∧ lff (out_osmosishand_Few p_b n) x1 r))))) ∧ ((decide ((p_b.length : Int) > n)) = false → (0 + p_b.length = p_b.length ∧ (F_B [] ++ F_B p_b = F_B p_b ∧ (fitsB 1 p_b.length = true ∧ lff (out_osmosishand_Few p_b n) p_b r)))))) := fun C => by kernel_rfl
  refine spec_of (fun _ _ h => by cases h) rfl atab_81 WF81_ok ((e _).mpr ⟨rfl, by decide, ?_⟩)
  unfold osmosishand_Few at h
  refine ⟨fun hb => ?_, fun hb => ?_⟩
  · have h := cond_t hb h
    obtain ⟨q1, h⟩ := bget hx1 h
    refine ⟨wP_sl_h R_B q1, ?_⟩
    obtain ⟨q2, h⟩ := gd_some h
    refine ⟨by simp, ?_⟩
    refine ⟨by first | rfl | simp [F_B], ?_⟩
    refine ⟨q2, ?_⟩
    exact lff_of h
  · have h := cond_f hb h
    obtain ⟨q3, h⟩ := gd_some h
    refine ⟨by simp, ?_⟩
    refine ⟨by first | rfl | simp [F_B], ?_⟩
    refine ⟨q3, ?_⟩
    exact lff_of h

/- osmosis/osmosislaw4.some -/
abbrev in_osmosislaw4_some_J0 (s11 : Int × List (List UInt8)) (l : List (List UInt8)) : Fast × WH := ([(0, (l_LB l)), (3, (.acc 0 0 1 s11.2.length true)), (4, (.int .i64 s11.1))], [(some (.cells (F_LB s11.2) false true))])
def fin_osmosislaw4_some_J0 (s11 : Int × List (List UInt8)) (l : List (List UInt8)) : Unit ⊕ Unit → Ex × Fast × WH := fun
  | .inl e => (.normal, [(0, (l_LB l)), (3, (.acc 0 0 1 s11.2.length true)), (4, (.int .i64 s11.1))], [(some (.cells (F_LB s11.2) false true))])
  | .inr e => ((.exit 0), [(3, (.acc 0 0 1 s11.2.length true))], [(some (.cells (F_LB s11.2) false true))])
def osmosislaw4_some_J0 (s11 : Int × List (List UInt8)) (l : List (List UInt8)) : Option (Unit ⊕ Unit) :=
  cond (decide (s11.1 < (l.length : Int))) (cond (decide (s11.1 < 6)) (some (.inl ())) (some (.inr ()))) (some (.inr ()))
theorem s_osmosislaw4_some_J0 (d : Nat) {s11 : Int × List (List UInt8)} {l : List (List UInt8)} {r : Unit ⊕ Unit} (h : osmosislaw4_some_J0 s11 l = some r) : RunX (bexec (wcalls atab (d + 0)) KK 24 WJ54_bbabkla) 0 (in_osmosislaw4_some_J0 s11 l) (fin_osmosislaw4_some_J0 s11 l r) := by
  have e : ∀ C : ACalls, wCode C (fun _ => none) KK 24 0 WJ54_bbabkla (in_osmosislaw4_some_J0 s11 l).1 (in_osmosislaw4_some_J0 s11 l).2 (.br 9 (.br 12 (.en [0, 3, 4] [none, none, none] [] []) (.en [3] [none] [] [])) (.en [3] [none] [] [])) (fin_osmosislaw4_some_J0 s11 l r) = (((decide (s11.1 < (l.length : Int))) = true → (((decide (s11.1 < 6)) = true → lfe (fin_osmosislaw4_some_J0 s11 l) (.inl ()) r) ∧ ((decide (s11.1 < 6)) = false → lfe (fin_osmosislaw4_some_J0 s11 l) (.inr ()) r))) ∧ ((decide (s11.1 < (l.length : Int))) = false → lfe (fin_osmosislaw4_some_J0 s11 l) (.inr ()) r)) := fun C => by kernel_rfl
  refine runS_of (fun _ _ h => by cases h) WJ54_bbabkla_ok (Nat.le_of_ble_eq_true rfl) ((e _).mpr ?_)
  unfold osmosislaw4_some_J0 at h
  refine ⟨fun hb => ?_, fun hb => ?_⟩
  · have h := cond_t hb h
    refine ⟨fun hb => ?_, fun hb => ?_⟩
    · have h := cond_t hb h
      exact lfe_of h
    · have h := cond_f hb h
      exact lfe_of h
  · have h := cond_f hb h
    exact lfe_of h

def st_osmosislaw4_some_L1 (l : List (List UInt8)) (s11 : Int × List (List UInt8)) : List AV × WH := ([(l_LB l), (.acc 0 0 1 s11.2.length true), (.int .i64 s11.1)], [(some (.cells (F_LB s11.2) false true))])
def fin_osmosislaw4_some_L1 (l : List (List UInt8)) : (List (List UInt8)) → Ex × Fast × WH := fun e => ((.exit 0), [(3, (.acc 0 0 1 e.length true))], [(some (.cells (F_LB e) false true))])
abbrev rx_osmosislaw4_some_L1 (l : List (List UInt8)) := roundX [0, 3, 4] (st_osmosislaw4_some_L1 l) (fin_osmosislaw4_some_L1 l)
def osmosislaw4_some_L1_s (l : List (List UInt8)) (s11 : Int × List (List UInt8)) : Option ((Int × List (List UInt8)) ⊕ ((List (List UInt8)))) :=
  (osmosislaw4_some_J0 s11 l).bind fun (x12 : Unit ⊕ Unit) => cond (isL x12) ((getI l s11.1).bind fun (x14 : List UInt8) => (osmosishand_Few x14 60).bind fun (x15 : List UInt8) => gd (fitsB 24 (s11.2 ++ [x15]).length) (some (.inl ((IntKind.i64.wrap (s11.1 + 1)), (s11.2 ++ [x15]))))) (some (.inr s11.2))
def osmosislaw4_some_L1 (l : List (List UInt8)) (s11 : Int × List (List UInt8)) : Option ((List (List UInt8))) := loopX (osmosislaw4_some_L1_s l) KK s11
theorem b_osmosislaw4_some_L1 (d : Nat) {l : List (List UInt8)} {s11 : Int × List (List UInt8)} {r : (Int × List (List UInt8)) ⊕ ((List (List UInt8)))} (h : osmosislaw4_some_L1_s l s11 = some r) : RunX (bexec (wcalls atab (d + 1)) KK 24 WB54_0) 0 (inL [0, 3, 4] (st_osmosislaw4_some_L1 l s11)) (rx_osmosislaw4_some_L1 l r) := by
  obtain ⟨x12, hx12⟩ := wx (osmosislaw4_some_J0 s11 l)
  obtain ⟨x14, hx14⟩ := wx (getI l s11.1)
  obtain ⟨x15, hx15⟩ := wx (osmosishand_Few x14 60)
  have e : ∀ C : ACalls, wCode C (fun _ => none) KK 24 0 WB54_0 (inL [0, 3, 4] (st_osmosislaw4_some_L1 l s11)).1 (inL [0, 3, 4] (st_osmosislaw4_some_L1 l s11)).2 (.ite (isL x12) (.jn [0, 3, 4] [none, none, none] [] [] .normal [(0, (l_LB l)), (3, (.acc 0 0 1 s11.2.length true)), (4, (.int .i64 s11.1))] [(some (.cells (F_LB s11.2) false true))] (.v 18 (.elem ([(l_B x14)] ++ F_LB (l.drop (s11.1.toNat + 1)))) (.call [] (some false) [] (l_B x15) [] (.ap 22 (s11.2 ++ [x15]).length (F_LB (s11.2 ++ [x15])) (.en [0, 3, 4] [none, none, none] [] []))))) (.jn [0, 3, 4] [none, none, none] [] [] (.exit 0) [(3, (.acc 0 0 1 s11.2.length true))] [(some (.cells (F_LB s11.2) false true))] (.en [3] [none] [] []))) (rx_osmosislaw4_some_L1 l r) = (((isL x12) = true → (RunS (bexec C KK 24 WJ54_bbabkla) 0 [(0, (l_LB l)), (3, (.acc 0 0 1 s11.2.length true)), (4, (.int .i64 s11.1))] [(some (.cells (F_LB s11.2) false true))] .normal [(0, (l_LB l)), (3, (.acc 0 0 1 s11.2.length true)), (4, (.int .i64 s11.1))] [(some (.cells (F_LB s11.2) false true))] ∧ (wP (.idxSlice 1 (.c (l_LB l)) (.c (.int .i64 s11.1))) = some (.elem ([(l_B x14)] ++ F_LB (l.drop (s11.1.toNat + 1)))) ∧ (Spec C 81 [(l_B x14), (.int .i64 60)] [] (l_B x15) [] ∧ (0 ≤ 0 ∧ (s11.2.length + 1 = (s11.2 ++ [x15]).length ∧ (F_LB s11.2 ++ F_LB [x15] = F_LB (s11.2 ++ [x15]) ∧ (fitsB 24 (s11.2 ++ [x15]).length = true ∧ lfe (rx_osmosislaw4_some_L1 l) (.inl ((IntKind.i64.wrap (s11.1 + 1)), (s11.2 ++ [x15]))) r)))))))) ∧ ((isL x12) = false → (RunS (bexec C KK 24 WJ54_bbabkla) 0 [(0, (l_LB l)), (3, (.acc 0 0 1 s11.2.length true)), (4, (.int .i64 s11.1))] [(some (.cells (F_LB s11.2) false true))] (.exit 0) [(3, (.acc 0 0 1 s11.2.length true))] [(some (.cells (F_LB s11.2) false true))] ∧ lfe (rx_osmosislaw4_some_L1 l) (.inr s11.2) r))) := fun C => by kernel_rfl
  refine runS_of (fun _ _ h => by cases h) WB54_0_ok (Nat.le_of_ble_eq_true rfl) ((e _).mpr ?_)
  unfold osmosislaw4_some_L1_s at h
  obtain ⟨q12, h⟩ := bget hx12 h
  refine ⟨fun hb13 => ?_, fun hb13 => ?_⟩
  · have h := cond_t hb13 h
    refine ⟨by have h := s_osmosislaw4_some_J0 (d + 1) q12; rw [isL_t hb13] at h; exact h, ?_⟩
    obtain ⟨q14, h⟩ := bget hx14 h
    refine ⟨wP_idx R_LB q14, ?_⟩
    obtain ⟨q15, h⟩ := bget hx15 h
    refine ⟨s_osmosishand_Few (d + 0) q15, ?_⟩
    refine ⟨by decide, ?_⟩
    obtain ⟨q16, h⟩ := gd_some h
    refine ⟨by simp, ?_⟩
    refine ⟨(Row.app R_LB _ _).symm, ?_⟩
    refine ⟨q16, ?_⟩
    exact lfe_of h
  · have h := cond_f hb13 h
    refine ⟨by have h := s_osmosislaw4_some_J0 (d + 1) q12; rw [isL_f hb13] at h; exact h, ?_⟩
    exact lfe_of h
theorem s_osmosislaw4_some_L1 (d : Nat) {l : List (List UInt8)} {s11 : Int × List (List UInt8)} {r : (List (List UInt8))} (h : osmosislaw4_some_L1 l s11 = some r) : RunX (bloop (bexec (wcalls atab (d + 1)) KK 24 WB54_0) [0, 3, 4] KK) 0 (inL [0, 3, 4] (st_osmosislaw4_some_L1 l s11)) (fin_osmosislaw4_some_L1 l r) :=
  loop_of (st := st_osmosislaw4_some_L1 l) (fin := fin_osmosislaw4_some_L1 l) (step := osmosislaw4_some_L1_s l) (fun e => by (intro h; cases h)) (fun s x h => b_osmosislaw4_some_L1 d h) KK s11 r h

def osmosislaw4_some (l : List (List UInt8)) : Option (List (List UInt8)) :=
  (osmosislaw4_some_L1 l (0, [])).bind fun (x17 : (List (List UInt8))) => some x17
def out_osmosislaw4_some (l : List (List UInt8)) (r : List (List UInt8)) : AV × WH := ((l_LB r), [])

theorem s_osmosislaw4_some (d : Nat) {l : List (List UInt8)} {r : List (List UInt8)} (h : osmosislaw4_some l = some r) : Spec (wcalls atab (d + 2)) 54 [(l_LB l)] [] (out_osmosislaw4_some l r).1 (out_osmosislaw4_some l r).2 := by
  obtain ⟨x17, hx17⟩ := wx (osmosislaw4_some_L1 l (0, []))
  have e : ∀ C : ACalls, wBody C (fun _ => none) KK WF54 [(l_LB l)] [] (.lp [none, (some true), none] [] [] (.exit 0) [(3, (.acc 0 0 1 x17.length true))] [(some (.cells (F_LB x17) false true))] (.fin (some false) [] none)) (out_osmosislaw4_some l r).1 (out_osmosislaw4_some l r).2 = (1 = 1 ∧ 1 ≤ 24 ∧ (RunS (bloop (bexec C KK 24 WB54_0) [0, 3, 4] KK) 0 [(0, (l_LB l)), (3, (.acc 0 0 1 0 true)), (4, (.int .i64 0))] [(some (.cells (F_LB []) false true))] (.exit 0) [(3, (.acc 0 0 1 x17.length true))] [(some (.cells (F_LB x17) false true))] ∧ lff (out_osmosislaw4_some l) x17 r)) := fun C => by kernel_rfl
  refine spec_of (fun _ _ h => by cases h) rfl atab_54 WF54_ok ((e _).mpr ⟨rfl, by decide, ?_⟩)
  unfold osmosislaw4_some at h
  obtain ⟨q17, h⟩ := bget hx17 h
  refine ⟨s_osmosislaw4_some_L1 (d + 0) q17, ?_⟩
  exact lff_of h

/- (*osmosis/disk.Disk).Size -/
def disk_Disk_Size (p_d : Int) (p_b1 : List UInt8) : Option (Int) :=
  some (p_b1.length : Int)
def out_disk_Disk_Size (p_d : Int) (p_b1 : List UInt8) (r : Int) : AV × WH := ((.int .i64 r), [(some (.cells [(.acc 1 0 1 p_b1.length true), (.int .i64 p_d)] false false)), (some (.cells (F_B p_b1) false true))])

theorem s_disk_Disk_Size (d : Nat) {p_d : Int} {p_b1 : List UInt8} {r : Int} (h : disk_Disk_Size p_d p_b1 = some r) : Spec (wcalls atab (d + 1)) 57 [(.ptr (some (0, 0)))] [(some (.cells [(.acc 1 0 1 p_b1.length true), (.int .i64 p_d)] false false)), (some (.cells (F_B p_b1) false true))] (out_disk_Disk_Size p_d p_b1 r).1 (out_disk_Disk_Size p_d p_b1 r).2 := by
  have e : ∀ C : ACalls, wBody C (fun _ => none) KK WF57 [(.ptr (some (0, 0)))] [(some (.cells [(.acc 1 0 1 p_b1.length true), (.int .i64 p_d)] false false)), (some (.cells (F_B p_b1) false true))] (.fin (some false) [] none) (out_disk_Disk_Size p_d p_b1 r).1 (out_disk_Disk_Size p_d p_b1 r).2 = (1 = 1 ∧ 1 ≤ 8 ∧ lff (out_disk_Disk_Size p_d p_b1) (p_b1.length : Int) r) := fun C => by kernel_rfl
  refine spec_of (fun _ _ h => by cases h) rfl atab_57 WF57_ok ((e _).mpr ⟨rfl, by decide, ?_⟩)
  unfold disk_Disk_Size at h
  exact lff_of h

/- osmosis/osmosishand.Pick -/
def osmosishand_Pick (n : Int) (m : Int) : Option (Int) :=
  (remI .i64 n m).bind fun (x1 : Int) => cond (decide (x1 < 0)) (some (IntKind.i64.wrap (x1 + m))) (some x1)
def out_osmosishand_Pick (n : Int) (m : Int) (r : Int) : AV × WH := ((.int .i64 r), [])

theorem s_osmosishand_Pick (d : Nat) {n : Int} {m : Int} {r : Int} (h : osmosishand_Pick n m = some r) : Spec (wcalls atab (d + 1)) 26 [(.int .i64 n), (.int .i64 m)] [] (out_osmosishand_Pick n m r).1 (out_osmosishand_Pick n m r).2 := by
  obtain ⟨x1, hx1⟩ := wx (remI .i64 n m)
  have e : ∀ C : ACalls, wBody C (fun _ => none) KK WF26 [(.int .i64 n), (.int .i64 m)] [] (.v 7 (.int .i64 x1) (.br 9 (.fin (some false) [] none) (.fin (some false) [] none))) (out_osmosishand_Pick n m r).1 (out_osmosishand_Pick n m r).2 = (2 = 2 ∧ 2 ≤ 14 ∧ (aInts .rem .i64 n m = some (.int .i64 x1) ∧ (((decide (x1 < 0)) = true → lff (out_osmosishand_Pick n m) (IntKind.i64.wrap (x1 + m)) r) ∧ ((decide (x1 < 0)) = false → lff (out_osmosishand_Pick n m) x1 r)))) := fun C => by kernel_rfl
  refine spec_of (fun _ _ h => by cases h) rfl atab_26 WF26_ok ((e _).mpr ⟨rfl, by decide, ?_⟩)
  unfold osmosishand_Pick at h
  obtain ⟨q1, h⟩ := bget hx1 h
  refine ⟨wP_rem q1, ?_⟩
  refine ⟨fun hb => ?_, fun hb => ?_⟩
  · have h := cond_t hb h
    exact lff_of h
  · have h := cond_f hb h
    exact lff_of h

/- osmosis/osmosislaw4.DiskKeeps -/
abbrev in_osmosislaw4_DiskKeeps_J0 (synced : List (List UInt8)) (tail : List (List UInt8)) (keeps : List Int) (x1 : Int) : Fast × WH := ([(0, (l_LB synced)), (1, (l_LB tail)), (2, (l_I keeps)), (7, (.ptr (some (0, 0))))], [(some (.cells [(.slice none 1 0 0 true), (.int .i64 x1)] false false))])
def fin_osmosislaw4_DiskKeeps_J0 (synced : List (List UInt8)) (tail : List (List UInt8)) (keeps : List Int) (x1 : Int) : Unit ⊕ Unit → Ex × Fast × WH := fun
  | .inl e => (.ret, [(6, (.bool false))], [])
  | .inr e => (.normal, [(0, (l_LB synced)), (1, (l_LB tail)), (2, (l_I keeps)), (7, (.ptr (some (0, 0))))], [(some (.cells [(.slice none 1 0 0 true), (.int .i64 x1)] false false))])
def osmosislaw4_DiskKeeps_J0 (synced : List (List UInt8)) (tail : List (List UInt8)) (keeps : List Int) (x1 : Int) : Option (Unit ⊕ Unit) :=
  (osmosislaw4_known).bind fun (x2 : Bool) => cond (!x2) (some (.inl ())) (some (.inr ()))
theorem s_osmosislaw4_DiskKeeps_J0 (d : Nat) {synced : List (List UInt8)} {tail : List (List UInt8)} {keeps : List Int} {x1 : Int} {r : Unit ⊕ Unit} (h : osmosislaw4_DiskKeeps_J0 synced tail keeps x1 = some r) : RunX (bexec (wcalls atab (d + 4)) KK 125 WJ16_bba) 0 (in_osmosislaw4_DiskKeeps_J0 synced tail keeps x1) (fin_osmosislaw4_DiskKeeps_J0 synced tail keeps x1 r) := by
  obtain ⟨x2, hx2⟩ := wx (osmosislaw4_known)
  have e : ∀ C : ACalls, wCode C (fun _ => none) KK 125 0 WJ16_bba (in_osmosislaw4_DiskKeeps_J0 synced tail keeps x1).1 (in_osmosislaw4_DiskKeeps_J0 synced tail keeps x1).2 (.cb [] [] (.bool x2) (.br 20 (.en [6] [none] [] []) (.en [0, 1, 2, 7] [none, none, none, none] [] []))) (fin_osmosislaw4_DiskKeeps_J0 synced tail keeps x1 r) = (Spec C 53 [] [] (.bool x2) [] ∧ (((!x2) = true → lfe (fin_osmosislaw4_DiskKeeps_J0 synced tail keeps x1) (.inl ()) r) ∧ ((!x2) = false → lfe (fin_osmosislaw4_DiskKeeps_J0 synced tail keeps x1) (.inr ()) r))) := fun C => by kernel_rfl
  refine runS_of (fun _ _ h => by cases h) WJ16_bba_ok (Nat.le_of_ble_eq_true rfl) ((e _).mpr ?_)
  unfold osmosislaw4_DiskKeeps_J0 at h
  obtain ⟨q2, h⟩ := bget hx2 h
  refine ⟨s_osmosislaw4_known (d + 0) q2, ?_⟩
  refine ⟨fun hb => ?_, fun hb => ?_⟩
  · have h := cond_t hb h
    exact lfe_of h
  · have h := cond_f hb h
    exact lfe_of h

def st_osmosislaw4_DiskKeeps_L1 (x5 : List (List UInt8)) (x1 : Int) (tail : List (List UInt8)) (keeps : List Int) (s12 : List UInt8 × Int × List UInt8) : List AV × WH := ([(l_LB tail), (l_I keeps), (.ptr (some (0, 0))), (.str s12.1), (l_LB x5), (.int .i64 (x5.length : Int)), (.int .i64 s12.2.1)], [(some (.cells [(.acc 1 0 1 s12.2.2.length true), (.int .i64 x1)] false false)), (some (.cells (F_B s12.2.2) false true))])
def fin_osmosislaw4_DiskKeeps_L1 (x5 : List (List UInt8)) (x1 : Int) (tail : List (List UInt8)) (keeps : List Int) : (List UInt8 × List UInt8) → Ex × Fast × WH := fun e => ((.exit 0), [(1, (l_LB tail)), (2, (l_I keeps)), (7, (.ptr (some (0, 0)))), (8, (.str e.1))], [(some (.cells [(.acc 1 0 1 e.2.length true), (.int .i64 x1)] false false)), (some (.cells (F_B e.2) false true))])
abbrev rx_osmosislaw4_DiskKeeps_L1 (x5 : List (List UInt8)) (x1 : Int) (tail : List (List UInt8)) (keeps : List Int) := roundX [1, 2, 7, 8, 25, 26, 27] (st_osmosislaw4_DiskKeeps_L1 x5 x1 tail keeps) (fin_osmosislaw4_DiskKeeps_L1 x5 x1 tail keeps)
def osmosislaw4_DiskKeeps_L1_s (x5 : List (List UInt8)) (x1 : Int) (tail : List (List UInt8)) (keeps : List Int) (s12 : List UInt8 × Int × List UInt8) : Option ((List UInt8 × Int × List UInt8) ⊕ ((List UInt8 × List UInt8))) :=
  cond (decide (s12.2.1 < (x5.length : Int))) ((getI x5 s12.2.1).bind fun (x13 : List UInt8) => (disk_Disk_Append_2 [x13] x1 s12.2.2).bind fun (x14 : Bool × List UInt8) => (catS s12.1 x13).bind fun (x15 : List UInt8) => some (.inl (x15, (IntKind.i64.wrap (s12.2.1 + 1)), x14.2))) (some (.inr (s12.1, s12.2.2)))
def osmosislaw4_DiskKeeps_L1 (x5 : List (List UInt8)) (x1 : Int) (tail : List (List UInt8)) (keeps : List Int) (s12 : List UInt8 × Int × List UInt8) : Option ((List UInt8 × List UInt8)) := loopX (osmosislaw4_DiskKeeps_L1_s x5 x1 tail keeps) KK s12
theorem b_osmosislaw4_DiskKeeps_L1 (d : Nat) {x5 : List (List UInt8)} {x1 : Int} {tail : List (List UInt8)} {keeps : List Int} {s12 : List UInt8 × Int × List UInt8} {r : (List UInt8 × Int × List UInt8) ⊕ ((List UInt8 × List UInt8))} (h : osmosislaw4_DiskKeeps_L1_s x5 x1 tail keeps s12 = some r) : RunX (bexec (wcalls atab (d + 3)) KK 125 WB16_0) 0 (inL [1, 2, 7, 8, 25, 26, 27] (st_osmosislaw4_DiskKeeps_L1 x5 x1 tail keeps s12)) (rx_osmosislaw4_DiskKeeps_L1 x5 x1 tail keeps r) := by
  obtain ⟨x13, hx13⟩ := wx (getI x5 s12.2.1)
  obtain ⟨x14, hx14⟩ := wx (disk_Disk_Append_2 [x13] x1 s12.2.2)
  obtain ⟨x15, hx15⟩ := wx (catS s12.1 x13)
  have e : ∀ C : ACalls, wCode C (fun _ => none) KK 125 0 WB16_0 (inL [1, 2, 7, 8, 25, 26, 27] (st_osmosislaw4_DiskKeeps_L1 x5 x1 tail keeps s12)).1 (inL [1, 2, 7, 8, 25, 26, 27] (st_osmosislaw4_DiskKeeps_L1 x5 x1 tail keeps s12)).2 (.br 28 (.v 29 (.elem ([(l_B x13)] ++ F_LB (x5.drop (s12.2.1.toNat + 1)))) (.call [] none [] (.bool x14.1) [(some (.cells [(.acc 2 0 1 x14.2.length true), (.int .i64 x1)] false false)), none, (some (.cells (F_B x14.2) false true))] (.v 37 (.str x13) (.v 38 (.str x15) (.en [1, 2, 7, 8, 25, 26, 27] [none, none, none, none, none, none, none] [] []))))) (.en [1, 2, 7, 8] [none, none, none, none] [] [])) (rx_osmosislaw4_DiskKeeps_L1 x5 x1 tail keeps r) = (((decide (s12.2.1 < (x5.length : Int))) = true → (wP (.idxSlice 1 (.c (l_LB x5)) (.c (.int .i64 s12.2.1))) = some (.elem ([(l_B x13)] ++ F_LB (x5.drop (s12.2.1.toNat + 1)))) ∧ (Spec C 55 [(.ptr (some (0, 0))), (l_LB [x13])] [(some (.cells [(.acc 1 0 1 s12.2.2.length true), (.int .i64 x1)] false false)), (some (.cells (F_B s12.2.2) false true))] (.bool x14.1) [(some (.cells [(.acc 2 0 1 x14.2.length true), (.int .i64 x1)] false false)), none, (some (.cells (F_B x14.2) false true))] ∧ (2 ≤ 3 ∧ ((toBytes (F_B x13)).map AV.str = some (.str x13) ∧ (aStrs .add s12.1 x13 = some (.str x15) ∧ lfe (rx_osmosislaw4_DiskKeeps_L1 x5 x1 tail keeps) (.inl (x15, (IntKind.i64.wrap (s12.2.1 + 1)), x14.2)) r)))))) ∧ ((decide (s12.2.1 < (x5.length : Int))) = false → lfe (rx_osmosislaw4_DiskKeeps_L1 x5 x1 tail keeps) (.inr (s12.1, s12.2.2)) r)) := fun C => by kernel_rfl
  refine runS_of (fun _ _ h => by cases h) WB16_0_ok (Nat.le_of_ble_eq_true rfl) ((e _).mpr ?_)
  unfold osmosislaw4_DiskKeeps_L1_s at h
  refine ⟨fun hb => ?_, fun hb => ?_⟩
  · have h := cond_t hb h
    obtain ⟨q13, h⟩ := bget hx13 h
    refine ⟨wP_idx R_LB q13, ?_⟩
    obtain ⟨q14, h⟩ := bget hx14 h
    refine ⟨s_disk_Disk_Append_2 (d + 0) q14, ?_⟩
    refine ⟨by decide, ?_⟩
    refine ⟨by rw [show F_B x13 = (x13).map byteC from rfl, toBytes_map]; rfl, ?_⟩
    obtain ⟨q15, h⟩ := bget hx15 h
    refine ⟨wP_cat q15, ?_⟩
    exact lfe_of h
  · have h := cond_f hb h
    exact lfe_of h
theorem s_osmosislaw4_DiskKeeps_L1 (d : Nat) {x5 : List (List UInt8)} {x1 : Int} {tail : List (List UInt8)} {keeps : List Int} {s12 : List UInt8 × Int × List UInt8} {r : (List UInt8 × List UInt8)} (h : osmosislaw4_DiskKeeps_L1 x5 x1 tail keeps s12 = some r) : RunX (bloop (bexec (wcalls atab (d + 3)) KK 125 WB16_0) [1, 2, 7, 8, 25, 26, 27] KK) 0 (inL [1, 2, 7, 8, 25, 26, 27] (st_osmosislaw4_DiskKeeps_L1 x5 x1 tail keeps s12)) (fin_osmosislaw4_DiskKeeps_L1 x5 x1 tail keeps r) :=
  loop_of (st := st_osmosislaw4_DiskKeeps_L1 x5 x1 tail keeps) (fin := fin_osmosislaw4_DiskKeeps_L1 x5 x1 tail keeps) (step := osmosislaw4_DiskKeeps_L1_s x5 x1 tail keeps) (fun e => by (intro h; cases h)) (fun s x h => b_osmosislaw4_DiskKeeps_L1 d h) KK s12 r h

def st_osmosislaw4_DiskKeeps_L2 (x42 : List (List UInt8)) (s40 : List UInt8 × Int × Int × List UInt8) (tail : List (List UInt8)) (x41 : Int) (keeps : List Int) (s46 : List UInt8 × Int × List UInt8) : List AV × WH := ([(l_LB tail), (.ptr (some (0, 0))), (.str s40.1), (.int .i64 x41), (.str s46.1), (l_I keeps), (.int .i64 (keeps.length : Int)), (.int .i64 s40.2.1), (l_LB x42), (.int .i64 (x42.length : Int)), (.int .i64 s46.2.1)], [(some (.cells [(.acc 1 0 1 s46.2.2.length true), (.int .i64 s40.2.2.1)] false false)), (some (.cells (F_B s46.2.2) false true))])
def fin_osmosislaw4_DiskKeeps_L2 (x42 : List (List UInt8)) (s40 : List UInt8 × Int × Int × List UInt8) (tail : List (List UInt8)) (x41 : Int) (keeps : List Int) : (List UInt8 × List UInt8) → Ex × Fast × WH := fun e => ((.exit 4), [(1, (l_LB tail)), (7, (.ptr (some (0, 0)))), (8, (.str s40.1)), (12, (.int .i64 x41)), (13, (.str e.1)), (42, (l_I keeps)), (43, (.int .i64 (keeps.length : Int))), (44, (.int .i64 s40.2.1))], [(some (.cells [(.acc 1 0 1 e.2.length true), (.int .i64 s40.2.2.1)] false false)), (some (.cells (F_B e.2) false true))])
abbrev rx_osmosislaw4_DiskKeeps_L2 (x42 : List (List UInt8)) (s40 : List UInt8 × Int × Int × List UInt8) (tail : List (List UInt8)) (x41 : Int) (keeps : List Int) := roundX [1, 7, 8, 12, 13, 42, 43, 44, 49, 50, 51] (st_osmosislaw4_DiskKeeps_L2 x42 s40 tail x41 keeps) (fin_osmosislaw4_DiskKeeps_L2 x42 s40 tail x41 keeps)
def osmosislaw4_DiskKeeps_L2_s (x42 : List (List UInt8)) (s40 : List UInt8 × Int × Int × List UInt8) (tail : List (List UInt8)) (x41 : Int) (keeps : List Int) (s46 : List UInt8 × Int × List UInt8) : Option ((List UInt8 × Int × List UInt8) ⊕ ((List UInt8 × List UInt8))) :=
  cond (decide (s46.2.1 < (x42.length : Int))) ((getI x42 s46.2.1).bind fun (x47 : List UInt8) => (disk_Disk_Append_2 [x47] s40.2.2.1 s46.2.2).bind fun (x48 : Bool × List UInt8) => (catS s46.1 x47).bind fun (x49 : List UInt8) => some (.inl (x49, (IntKind.i64.wrap (s46.2.1 + 1)), x48.2))) (some (.inr (s46.1, s46.2.2)))
def osmosislaw4_DiskKeeps_L2 (x42 : List (List UInt8)) (s40 : List UInt8 × Int × Int × List UInt8) (tail : List (List UInt8)) (x41 : Int) (keeps : List Int) (s46 : List UInt8 × Int × List UInt8) : Option ((List UInt8 × List UInt8)) := loopX (osmosislaw4_DiskKeeps_L2_s x42 s40 tail x41 keeps) KK s46
theorem b_osmosislaw4_DiskKeeps_L2 (d : Nat) {x42 : List (List UInt8)} {s40 : List UInt8 × Int × Int × List UInt8} {tail : List (List UInt8)} {x41 : Int} {keeps : List Int} {s46 : List UInt8 × Int × List UInt8} {r : (List UInt8 × Int × List UInt8) ⊕ ((List UInt8 × List UInt8))} (h : osmosislaw4_DiskKeeps_L2_s x42 s40 tail x41 keeps s46 = some r) : RunX (bexec (wcalls atab (d + 3)) KK 125 WB16_2) 0 (inL [1, 7, 8, 12, 13, 42, 43, 44, 49, 50, 51] (st_osmosislaw4_DiskKeeps_L2 x42 s40 tail x41 keeps s46)) (rx_osmosislaw4_DiskKeeps_L2 x42 s40 tail x41 keeps r) := by
  obtain ⟨x47, hx47⟩ := wx (getI x42 s46.2.1)
  obtain ⟨x48, hx48⟩ := wx (disk_Disk_Append_2 [x47] s40.2.2.1 s46.2.2)
  obtain ⟨x49, hx49⟩ := wx (catS s46.1 x47)
  have e : ∀ C : ACalls, wCode C (fun _ => none) KK 125 0 WB16_2 (inL [1, 7, 8, 12, 13, 42, 43, 44, 49, 50, 51] (st_osmosislaw4_DiskKeeps_L2 x42 s40 tail x41 keeps s46)).1 (inL [1, 7, 8, 12, 13, 42, 43, 44, 49, 50, 51] (st_osmosislaw4_DiskKeeps_L2 x42 s40 tail x41 keeps s46)).2 (.br 52 (.v 53 (.elem ([(l_B x47)] ++ F_LB (x42.drop (s46.2.1.toNat + 1)))) (.call [] none [] (.bool x48.1) [(some (.cells [(.acc 2 0 1 x48.2.length true), (.int .i64 s40.2.2.1)] false false)), none, (some (.cells (F_B x48.2) false true))] (.v 61 (.str x47) (.v 62 (.str x49) (.en [1, 7, 8, 12, 13, 42, 43, 44, 49, 50, 51] [none, none, none, none, none, none, none, none, none, none, none] [] []))))) (.en [1, 7, 8, 12, 13, 42, 43, 44] [none, none, none, none, none, none, none, none] [] [])) (rx_osmosislaw4_DiskKeeps_L2 x42 s40 tail x41 keeps r) = (((decide (s46.2.1 < (x42.length : Int))) = true → (wP (.idxSlice 1 (.c (l_LB x42)) (.c (.int .i64 s46.2.1))) = some (.elem ([(l_B x47)] ++ F_LB (x42.drop (s46.2.1.toNat + 1)))) ∧ (Spec C 55 [(.ptr (some (0, 0))), (l_LB [x47])] [(some (.cells [(.acc 1 0 1 s46.2.2.length true), (.int .i64 s40.2.2.1)] false false)), (some (.cells (F_B s46.2.2) false true))] (.bool x48.1) [(some (.cells [(.acc 2 0 1 x48.2.length true), (.int .i64 s40.2.2.1)] false false)), none, (some (.cells (F_B x48.2) false true))] ∧ (2 ≤ 3 ∧ ((toBytes (F_B x47)).map AV.str = some (.str x47) ∧ (aStrs .add s46.1 x47 = some (.str x49) ∧ lfe (rx_osmosislaw4_DiskKeeps_L2 x42 s40 tail x41 keeps) (.inl (x49, (IntKind.i64.wrap (s46.2.1 + 1)), x48.2)) r)))))) ∧ ((decide (s46.2.1 < (x42.length : Int))) = false → lfe (rx_osmosislaw4_DiskKeeps_L2 x42 s40 tail x41 keeps) (.inr (s46.1, s46.2.2)) r)) := fun C => by kernel_rfl
  refine runS_of (fun _ _ h => by cases h) WB16_2_ok (Nat.le_of_ble_eq_true rfl) ((e _).mpr ?_)
  unfold osmosislaw4_DiskKeeps_L2_s at h
  refine ⟨fun hb => ?_, fun hb => ?_⟩
  · have h := cond_t hb h
    obtain ⟨q47, h⟩ := bget hx47 h
    refine ⟨wP_idx R_LB q47, ?_⟩
    obtain ⟨q48, h⟩ := bget hx48 h
    refine ⟨s_disk_Disk_Append_2 (d + 0) q48, ?_⟩
    refine ⟨by decide, ?_⟩
    refine ⟨by rw [show F_B x47 = (x47).map byteC from rfl, toBytes_map]; rfl, ?_⟩
    obtain ⟨q49, h⟩ := bget hx49 h
    refine ⟨wP_cat q49, ?_⟩
    exact lfe_of h
  · have h := cond_f hb h
    exact lfe_of h
theorem s_osmosislaw4_DiskKeeps_L2 (d : Nat) {x42 : List (List UInt8)} {s40 : List UInt8 × Int × Int × List UInt8} {tail : List (List UInt8)} {x41 : Int} {keeps : List Int} {s46 : List UInt8 × Int × List UInt8} {r : (List UInt8 × List UInt8)} (h : osmosislaw4_DiskKeeps_L2 x42 s40 tail x41 keeps s46 = some r) : RunX (bloop (bexec (wcalls atab (d + 3)) KK 125 WB16_2) [1, 7, 8, 12, 13, 42, 43, 44, 49, 50, 51] KK) 0 (inL [1, 7, 8, 12, 13, 42, 43, 44, 49, 50, 51] (st_osmosislaw4_DiskKeeps_L2 x42 s40 tail x41 keeps s46)) (fin_osmosislaw4_DiskKeeps_L2 x42 s40 tail x41 keeps r) :=
  loop_of (st := st_osmosislaw4_DiskKeeps_L2 x42 s40 tail x41 keeps) (fin := fin_osmosislaw4_DiskKeeps_L2 x42 s40 tail x41 keeps) (step := osmosislaw4_DiskKeeps_L2_s x42 s40 tail x41 keeps) (fun e => by (intro h; cases h)) (fun s x h => b_osmosislaw4_DiskKeeps_L2 d h) KK s46 r h

abbrev in_osmosislaw4_DiskKeeps_J3 (s40 : List UInt8 × Int × Int × List UInt8) (x50 : (List UInt8 × List UInt8)) (tail : List (List UInt8)) (x41 : Int) (keeps : List Int) : Fast × WH := ([(1, (l_LB tail)), (7, (.ptr (some (0, 0)))), (8, (.str s40.1)), (12, (.int .i64 x41)), (13, (.str x50.1)), (42, (l_I keeps)), (43, (.int .i64 (keeps.length : Int))), (44, (.int .i64 s40.2.1))], [(some (.cells [(.acc 1 0 1 x50.2.length true), (.int .i64 s40.2.2.1)] false false)), (some (.cells (F_B x50.2) false true))])
def fin_osmosislaw4_DiskKeeps_J3 (s40 : List UInt8 × Int × Int × List UInt8) (x50 : (List UInt8 × List UInt8)) (tail : List (List UInt8)) (x41 : Int) (keeps : List Int) : Unit ⊕ Unit → Ex × Fast × WH := fun
  | .inl e => (.ret, [(6, (.bool false))], [])
  | .inr e => (.normal, [(1, (l_LB tail)), (7, (.ptr (some (0, 0)))), (8, (.str s40.1)), (12, (.int .i64 x41)), (13, (.str x50.1)), (42, (l_I keeps)), (43, (.int .i64 (keeps.length : Int))), (44, (.int .i64 s40.2.1))], [(some (.cells [(.acc 1 0 1 x50.2.length true), (.int .i64 s40.2.2.1)] false false)), (some (.cells (F_B x50.2) false true))])
def osmosislaw4_DiskKeeps_J3 (s40 : List UInt8 × Int × Int × List UInt8) (x50 : (List UInt8 × List UInt8)) (tail : List (List UInt8)) (x41 : Int) (keeps : List Int) : Option (Unit ⊕ Unit) :=
  (disk_Disk_Size s40.2.2.1 x50.2).bind fun (x51 : Int) => cond (x51 != (IntKind.i64.wrap ((s40.1.length : Int) + (x50.1.length : Int)))) (some (.inl ())) ((disk_Disk_Synced s40.2.2.1 x50.2).bind fun (x52 : Int) => cond (x52 != (s40.1.length : Int)) (some (.inl ())) (some (.inr ())))
theorem s_osmosislaw4_DiskKeeps_J3 (d : Nat) {s40 : List UInt8 × Int × Int × List UInt8} {x50 : (List UInt8 × List UInt8)} {tail : List (List UInt8)} {x41 : Int} {keeps : List Int} {r : Unit ⊕ Unit} (h : osmosislaw4_DiskKeeps_J3 s40 x50 tail x41 keeps = some r) : RunX (bexec (wcalls atab (d + 1)) KK 125 WJ16_bbbbbbabklbbakbbba) 0 (in_osmosislaw4_DiskKeeps_J3 s40 x50 tail x41 keeps) (fin_osmosislaw4_DiskKeeps_J3 s40 x50 tail x41 keeps r) := by
  obtain ⟨x51, hx51⟩ := wx (disk_Disk_Size s40.2.2.1 x50.2)
  obtain ⟨x52, hx52⟩ := wx (disk_Disk_Synced s40.2.2.1 x50.2)
  have e : ∀ C : ACalls, wCode C (fun _ => none) KK 125 0 WJ16_bbbbbbabklbbakbbba (in_osmosislaw4_DiskKeeps_J3 s40 x50 tail x41 keeps).1 (in_osmosislaw4_DiskKeeps_J3 s40 x50 tail x41 keeps).2 (.call [] none [] (.int .i64 x51) [(some (.cells [(.acc 1 0 1 x50.2.length true), (.int .i64 s40.2.2.1)] false false)), (some (.cells (F_B x50.2) false true))] (.br 72 (.en [6] [none] [] []) (.call [] none [] (.int .i64 x52) [(some (.cells [(.acc 1 0 1 x50.2.length true), (.int .i64 s40.2.2.1)] false false)), (some (.cells (F_B x50.2) false true))] (.br 78 (.en [6] [none] [] []) (.en [1, 7, 8, 12, 13, 42, 43, 44] [none, none, none, none, none, none, none, none] [] []))))) (fin_osmosislaw4_DiskKeeps_J3 s40 x50 tail x41 keeps r) = (Spec C 57 [(.ptr (some (0, 0)))] [(some (.cells [(.acc 1 0 1 x50.2.length true), (.int .i64 s40.2.2.1)] false false)), (some (.cells (F_B x50.2) false true))] (.int .i64 x51) [(some (.cells [(.acc 1 0 1 x50.2.length true), (.int .i64 s40.2.2.1)] false false)), (some (.cells (F_B x50.2) false true))] ∧ (2 ≤ 2 ∧ (((x51 != (IntKind.i64.wrap ((s40.1.length : Int) + (x50.1.length : Int)))) = true → lfe (fin_osmosislaw4_DiskKeeps_J3 s40 x50 tail x41 keeps) (.inl ()) r) ∧ ((x51 != (IntKind.i64.wrap ((s40.1.length : Int) + (x50.1.length : Int)))) = false → (Spec C 58 [(.ptr (some (0, 0)))] [(some (.cells [(.acc 1 0 1 x50.2.length true), (.int .i64 s40.2.2.1)] false false)), (some (.cells (F_B x50.2) false true))] (.int .i64 x52) [(some (.cells [(.acc 1 0 1 x50.2.length true), (.int .i64 s40.2.2.1)] false false)), (some (.cells (F_B x50.2) false true))] ∧ (2 ≤ 2 ∧ (((x52 != (s40.1.length : Int)) = true → lfe (fin_osmosislaw4_DiskKeeps_J3 s40 x50 tail x41 keeps) (.inl ()) r) ∧ ((x52 != (s40.1.length : Int)) = false → lfe (fin_osmosislaw4_DiskKeeps_J3 s40 x50 tail x41 keeps) (.inr ()) r)))))))) := fun C => by kernel_rfl
  refine runS_of (fun _ _ h => by cases h) WJ16_bbbbbbabklbbakbbba_ok (Nat.le_of_ble_eq_true rfl) ((e _).mpr ?_)
  unfold osmosislaw4_DiskKeeps_J3 at h
  obtain ⟨q51, h⟩ := bget hx51 h
  refine ⟨s_disk_Disk_Size (d + 0) q51, ?_⟩
  refine ⟨by decide, ?_⟩
  refine ⟨fun hb => ?_, fun hb => ?_⟩
  · have h := cond_t hb h
    exact lfe_of h
  · have h := cond_f hb h
    obtain ⟨q52, h⟩ := bget hx52 h
    refine ⟨s_disk_Disk_Synced (d + 0) q52, ?_⟩
    refine ⟨by decide, ?_⟩
    refine ⟨fun hb => ?_, fun hb => ?_⟩
    · have h := cond_t hb h
      exact lfe_of h
    · have h := cond_f hb h
      exact lfe_of h

abbrev in_osmosislaw4_DiskKeeps_J4 (x57 : Int × Int × List UInt8) (x59 : List UInt8) (tail : List (List UInt8)) (keeps : List Int) (s40 : List UInt8 × Int × Int × List UInt8) : Fast × WH := ([(1, (l_LB tail)), (7, (.ptr (some (0, 0)))), (8, (.str x59)), (42, (l_I keeps)), (43, (.int .i64 (keeps.length : Int))), (44, (.int .i64 s40.2.1))], [(some (.cells [(.acc 1 0 1 x57.2.2.length true), (.int .i64 x57.2.1)] false false)), (some (.cells (F_B x57.2.2) false true))])
def fin_osmosislaw4_DiskKeeps_J4 (x57 : Int × Int × List UInt8) (x59 : List UInt8) (tail : List (List UInt8)) (keeps : List Int) (s40 : List UInt8 × Int × Int × List UInt8) : Bool → Ex × Fast × WH := fun e => (.normal, [(1, (l_LB tail)), (7, (.ptr (some (0, 0)))), (8, (.str x59)), (42, (l_I keeps)), (43, (.int .i64 (keeps.length : Int))), (44, (.int .i64 s40.2.1)), (120, (.bool e))], [(some (.cells [(.acc 1 0 1 x57.2.2.length true), (.int .i64 x57.2.1)] false false)), (some (.cells (F_B x57.2.2) false true))])
def osmosislaw4_DiskKeeps_J4 (x57 : Int × Int × List UInt8) (x59 : List UInt8) (tail : List (List UInt8)) (keeps : List Int) (s40 : List UInt8 × Int × Int × List UInt8) : Option (Bool) :=
  (disk_Disk_Bytes x57.2.1 x57.2.2).bind fun (x60 : List UInt8) => cond (!(x60 == x59)) (some true) ((disk_Disk_Synced x57.2.1 x57.2.2).bind fun (x61 : Int) => cond (x61 != (x59.length : Int)) (some true) (some (decide ((x59.length : Int) > 30000))))
theorem s_osmosislaw4_DiskKeeps_J4 (d : Nat) {x57 : Int × Int × List UInt8} {x59 : List UInt8} {tail : List (List UInt8)} {keeps : List Int} {s40 : List UInt8 × Int × Int × List UInt8} {r : Bool} (h : osmosislaw4_DiskKeeps_J4 x57 x59 tail keeps s40 = some r) : RunX (bexec (wcalls atab (d + 2)) KK 125 WJ16_bbbbbbabklbbakbbbbbbba) 0 (in_osmosislaw4_DiskKeeps_J4 x57 x59 tail keeps s40) (fin_osmosislaw4_DiskKeeps_J4 x57 x59 tail keeps s40 r) := by
  obtain ⟨x60, hx60⟩ := wx (disk_Disk_Bytes x57.2.1 x57.2.2)
  obtain ⟨x61, hx61⟩ := wx (disk_Disk_Synced x57.2.1 x57.2.2)
  have e : ∀ C : ACalls, wCode C (fun _ => none) KK 125 0 WJ16_bbbbbbabklbbakbbbbbbba (in_osmosislaw4_DiskKeeps_J4 x57 x59 tail keeps s40).1 (in_osmosislaw4_DiskKeeps_J4 x57 x59 tail keeps s40).2 (.call [] none [] (l_B x60) [(some (.cells [(.acc 1 0 1 x57.2.2.length true), (.int .i64 x57.2.1)] false false)), (some (.cells (F_B x57.2.2) false true))] (.v 106 (.str x60) (.br 109 (.en [1, 7, 8, 42, 43, 44, 120] [none, none, none, none, none, none, none] [] []) (.call [] none [] (.int .i64 x61) [(some (.cells [(.acc 1 0 1 x57.2.2.length true), (.int .i64 x57.2.1)] false false)), (some (.cells (F_B x57.2.2) false true))] (.br 116 (.en [1, 7, 8, 42, 43, 44, 120] [none, none, none, none, none, none, none] [] []) (.en [1, 7, 8, 42, 43, 44, 120] [none, none, none, none, none, none, none] [] [])))))) (fin_osmosislaw4_DiskKeeps_J4 x57 x59 tail keeps s40 r) = (Spec C 60 [(.ptr (some (0, 0)))] [(some (.cells [(.acc 1 0 1 x57.2.2.length true), (.int .i64 x57.2.1)] false false)), (some (.cells (F_B x57.2.2) false true))] (l_B x60) [(some (.cells [(.acc 1 0 1 x57.2.2.length true), (.int .i64 x57.2.1)] false false)), (some (.cells (F_B x57.2.2) false true))] ∧ (2 ≤ 2 ∧ ((toBytes (F_B x60)).map AV.str = some (.str x60) ∧ (((!(x60 == x59)) = true → lfe (fin_osmosislaw4_DiskKeeps_J4 x57 x59 tail keeps s40) true r) ∧ ((!(x60 == x59)) = false → (Spec C 58 [(.ptr (some (0, 0)))] [(some (.cells [(.acc 1 0 1 x57.2.2.length true), (.int .i64 x57.2.1)] false false)), (some (.cells (F_B x57.2.2) false true))] (.int .i64 x61) [(some (.cells [(.acc 1 0 1 x57.2.2.length true), (.int .i64 x57.2.1)] false false)), (some (.cells (F_B x57.2.2) false true))] ∧ (2 ≤ 2 ∧ (((x61 != (x59.length : Int)) = true → lfe (fin_osmosislaw4_DiskKeeps_J4 x57 x59 tail keeps s40) true r) ∧ ((x61 != (x59.length : Int)) = false → lfe (fin_osmosislaw4_DiskKeeps_J4 x57 x59 tail keeps s40) (decide ((x59.length : Int) > 30000)) r))))))))) := fun C => by kernel_rfl
  refine runS_of (fun _ _ h => by cases h) WJ16_bbbbbbabklbbakbbbbbbba_ok (Nat.le_of_ble_eq_true rfl) ((e _).mpr ?_)
  unfold osmosislaw4_DiskKeeps_J4 at h
  obtain ⟨q60, h⟩ := bget hx60 h
  refine ⟨s_disk_Disk_Bytes (d + 0) q60, ?_⟩
  refine ⟨by decide, ?_⟩
  refine ⟨by rw [show F_B x60 = (x60).map byteC from rfl, toBytes_map]; rfl, ?_⟩
  refine ⟨fun hb => ?_, fun hb => ?_⟩
  · have h := cond_t hb h
    exact lfe_of h
  · have h := cond_f hb h
    obtain ⟨q61, h⟩ := bget hx61 h
    refine ⟨s_disk_Disk_Synced (d + 1) q61, ?_⟩
    refine ⟨by decide, ?_⟩
    refine ⟨fun hb => ?_, fun hb => ?_⟩
    · have h := cond_t hb h
      exact lfe_of h
    · have h := cond_f hb h
      exact lfe_of h

def st_osmosislaw4_DiskKeeps_L5 (keeps : List Int) (tail : List (List UInt8)) (s40 : List UInt8 × Int × Int × List UInt8) : List AV × WH := ([(l_LB tail), (.ptr (some (0, 0))), (.str s40.1), (l_I keeps), (.int .i64 (keeps.length : Int)), (.int .i64 s40.2.1)], [(some (.cells [(.acc 1 0 1 s40.2.2.2.length true), (.int .i64 s40.2.2.1)] false false)), (some (.cells (F_B s40.2.2.2) false true))])
def fin_osmosislaw4_DiskKeeps_L5 (keeps : List Int) (tail : List (List UInt8)) : Bool ⊕ Unit → Ex × Fast × WH := fun
  | .inl e => (.ret, [(6, (.bool e))], [])
  | .inr e => ((.exit 2), [], [])
abbrev rx_osmosislaw4_DiskKeeps_L5 (keeps : List Int) (tail : List (List UInt8)) := roundX [1, 7, 8, 42, 43, 44] (st_osmosislaw4_DiskKeeps_L5 keeps tail) (fin_osmosislaw4_DiskKeeps_L5 keeps tail)
def osmosislaw4_DiskKeeps_L5_s (keeps : List Int) (tail : List (List UInt8)) (s40 : List UInt8 × Int × Int × List UInt8) : Option ((List UInt8 × Int × Int × List UInt8) ⊕ (Bool ⊕ Unit)) :=
  cond (decide (s40.2.1 < (keeps.length : Int))) ((getI keeps s40.2.1).bind fun (x41 : Int) => (osmosislaw4_some tail).bind fun (x42 : List (List UInt8)) => (osmosislaw4_DiskKeeps_L2 x42 s40 tail x41 keeps (([] : List UInt8), 0, s40.2.2.2)).bind fun (x50 : (List UInt8 × List UInt8)) => (osmosislaw4_DiskKeeps_J3 s40 x50 tail x41 keeps).bind fun (x53 : Unit ⊕ Unit) => cond (isL x53) (some (.inr (.inl false))) ((osmosishand_Pick x41 (IntKind.i64.wrap ((x50.1.length : Int) + 9))).bind fun (x55 : Int) => (osmosishand_Pick x41 (IntKind.i64.wrap ((x50.1.length : Int) + 9))).bind fun (x56 : Int) => (disk_Disk_Crash (IntKind.i64.wrap (x56 - 3)) s40.2.2.1 x50.2).bind fun (x57 : Int × Int × List UInt8) => cond (x57.1 != (if (if (x50.1.length : Int) < (IntKind.i64.wrap (x55 - 3)) then (x50.1.length : Int) else (IntKind.i64.wrap (x55 - 3))) > 0 then (if (x50.1.length : Int) < (IntKind.i64.wrap (x55 - 3)) then (x50.1.length : Int) else (IntKind.i64.wrap (x55 - 3))) else 0)) (some (.inr (.inl false))) ((slI x50.1 0 (if (if (x50.1.length : Int) < (IntKind.i64.wrap (x55 - 3)) then (x50.1.length : Int) else (IntKind.i64.wrap (x55 - 3))) > 0 then (if (x50.1.length : Int) < (IntKind.i64.wrap (x55 - 3)) then (x50.1.length : Int) else (IntKind.i64.wrap (x55 - 3))) else 0)).bind fun (x58 : List UInt8) => (catS s40.1 x58).bind fun (x59 : List UInt8) => (osmosislaw4_DiskKeeps_J4 x57 x59 tail keeps s40).bind fun (x62 : Bool) => cond x62 (some (.inr (.inl (decide ((x59.length : Int) > 30000))))) (some (.inl (x59, (IntKind.i64.wrap (s40.2.1 + 1)), x57.2.1, x57.2.2)))))) (some (.inr (.inr ())))
def osmosislaw4_DiskKeeps_L5 (keeps : List Int) (tail : List (List UInt8)) (s40 : List UInt8 × Int × Int × List UInt8) : Option (Bool ⊕ Unit) := loopX (osmosislaw4_DiskKeeps_L5_s keeps tail) KK s40
theorem b_osmosislaw4_DiskKeeps_L5 (d : Nat) {keeps : List Int} {tail : List (List UInt8)} {s40 : List UInt8 × Int × Int × List UInt8} {r : (List UInt8 × Int × Int × List UInt8) ⊕ (Bool ⊕ Unit)} (h : osmosislaw4_DiskKeeps_L5_s keeps tail s40 = some r) : RunX (bexec (wcalls atab (d + 3)) KK 125 WB16_1) 0 (inL [1, 7, 8, 42, 43, 44] (st_osmosislaw4_DiskKeeps_L5 keeps tail s40)) (rx_osmosislaw4_DiskKeeps_L5 keeps tail r) := by
  obtain ⟨x41, hx41⟩ := wx (getI keeps s40.2.1)
  obtain ⟨x42, hx42⟩ := wx (osmosislaw4_some tail)
  obtain ⟨x50, hx50⟩ := wx (osmosislaw4_DiskKeeps_L2 x42 s40 tail x41 keeps (([] : List UInt8), 0, s40.2.2.2))
  obtain ⟨x53, hx53⟩ := wx (osmosislaw4_DiskKeeps_J3 s40 x50 tail x41 keeps)
  obtain ⟨x55, hx55⟩ := wx (osmosishand_Pick x41 (IntKind.i64.wrap ((x50.1.length : Int) + 9)))
  obtain ⟨x56, hx56⟩ := wx (osmosishand_Pick x41 (IntKind.i64.wrap ((x50.1.length : Int) + 9)))
  obtain ⟨x57, hx57⟩ := wx (disk_Disk_Crash (IntKind.i64.wrap (x56 - 3)) s40.2.2.1 x50.2)
  obtain ⟨x58, hx58⟩ := wx (slI x50.1 0 (if (if (x50.1.length : Int) < (IntKind.i64.wrap (x55 - 3)) then (x50.1.length : Int) else (IntKind.i64.wrap (x55 - 3))) > 0 then (if (x50.1.length : Int) < (IntKind.i64.wrap (x55 - 3)) then (x50.1.length : Int) else (IntKind.i64.wrap (x55 - 3))) else 0))
  obtain ⟨x59, hx59⟩ := wx (catS s40.1 x58)
  obtain ⟨x62, hx62⟩ := wx (osmosislaw4_DiskKeeps_J4 x57 x59 tail keeps s40)
  have e : ∀ C : ACalls, wCode C (fun _ => none) KK 125 0 WB16_1 (inL [1, 7, 8, 42, 43, 44] (st_osmosislaw4_DiskKeeps_L5 keeps tail s40)).1 (inL [1, 7, 8, 42, 43, 44] (st_osmosislaw4_DiskKeeps_L5 keeps tail s40)).2 (.br 45 (.v 46 (.elem ([(.int .i64 x41)] ++ F_I (keeps.drop (s40.2.1.toNat + 1)))) (.call [] (some false) [] (l_LB x42) [] (.lp [none, none, none, none, none, none, none, none, none, none, none] [] [] (.exit 4) [(1, (l_LB tail)), (7, (.ptr (some (0, 0)))), (8, (.str s40.1)), (12, (.int .i64 x41)), (13, (.str x50.1)), (42, (l_I keeps)), (43, (.int .i64 (keeps.length : Int))), (44, (.int .i64 s40.2.1))] [(some (.cells [(.acc 1 0 1 x50.2.length true), (.int .i64 s40.2.2.1)] false false)), (some (.cells (F_B x50.2) false true))] (.ite (isL x53) (.jn [1, 7, 8, 12, 13, 42, 43, 44] [none, none, none, none, none, none, none, none] [] [] .ret [(6, (.bool false))] [] (.en [6] [none] [] [])) (.jn [1, 7, 8, 12, 13, 42, 43, 44] [none, none, none, none, none, none, none, none] [] [] .normal [(1, (l_LB tail)), (7, (.ptr (some (0, 0)))), (8, (.str s40.1)), (12, (.int .i64 x41)), (13, (.str x50.1)), (42, (l_I keeps)), (43, (.int .i64 (keeps.length : Int))), (44, (.int .i64 s40.2.1))] [(some (.cells [(.acc 1 0 1 x50.2.length true), (.int .i64 s40.2.2.1)] false false)), (some (.cells (F_B x50.2) false true))] (.cb [] [] (.int .i64 x55) (.cb [] [] (.int .i64 x56) (.call [] none [] (.int .i64 x57.1) [(some (.cells [(.acc 2 0 1 x57.2.2.length true), (.int .i64 x57.2.1)] false false)), none, (some (.cells (F_B x57.2.2) false true))] (.br 98 (.en [6] [none] [] []) (.v 102 (.str x58) (.v 103 (.str x59) (.jn [1, 7, 8, 42, 43, 44] [none, none, none, none, none, none] [] [] .normal [(1, (l_LB tail)), (7, (.ptr (some (0, 0)))), (8, (.str x59)), (42, (l_I keeps)), (43, (.int .i64 (keeps.length : Int))), (44, (.int .i64 s40.2.1)), (120, (.bool x62))] [(some (.cells [(.acc 1 0 1 x57.2.2.length true), (.int .i64 x57.2.1)] false false)), (some (.cells (F_B x57.2.2) false true))] (.br 120 (.en [6] [none] [] []) (.en [1, 7, 8, 42, 43, 44] [none, none, none, none, none, none] [] [])))))))))))))) (.en [] [] [] [])) (rx_osmosislaw4_DiskKeeps_L5 keeps tail r) = (((decide (s40.2.1 < (keeps.length : Int))) = true → (wP (.idxSlice 1 (.c (l_I keeps)) (.c (.int .i64 s40.2.1))) = some (.elem ([(.int .i64 x41)] ++ F_I (keeps.drop (s40.2.1.toNat + 1)))) ∧ (Spec C 54 [(l_LB tail)] [] (l_LB x42) [] ∧ (0 ≤ 0 ∧ (RunS (bloop (bexec C KK 125 WB16_2) [1, 7, 8, 12, 13, 42, 43, 44, 49, 50, 51] KK) 0 [(1, (l_LB tail)), (7, (.ptr (some (0, 0)))), (8, (.str s40.1)), (12, (.int .i64 x41)), (13, (.str ([] : List UInt8))), (42, (l_I keeps)), (43, (.int .i64 (keeps.length : Int))), (44, (.int .i64 s40.2.1)), (49, (l_LB x42)), (50, (.int .i64 (x42.length : Int))), (51, (.int .i64 0))] [(some (.cells [(.acc 1 0 1 s40.2.2.2.length true), (.int .i64 s40.2.2.1)] false false)), (some (.cells (F_B s40.2.2.2) false true))] (.exit 4) [(1, (l_LB tail)), (7, (.ptr (some (0, 0)))), (8, (.str s40.1)), (12, (.int .i64 x41)), (13, (.str x50.1)), (42, (l_I keeps)), (43, (.int .i64 (keeps.length : Int))), (44, (.int .i64 s40.2.1))] [(some (.cells [(.acc 1 0 1 x50.2.length true), (.int .i64 s40.2.2.1)] false false)), (some (.cells (F_B x50.2) false true))] ∧ (((isL x53) = true → (RunS (bexec C KK 125 WJ16_bbbbbbabklbbakbbba) 0 [(1, (l_LB tail)), (7, (.ptr (some (0, 0)))), (8, (.str s40.1)), (12, (.int .i64 x41)), (13, (.str x50.1)), (42, (l_I keeps)), (43, (.int .i64 (keeps.length : Int))), (44, (.int .i64 s40.2.1))] [(some (.cells [(.acc 1 0 1 x50.2.length true), (.int .i64 s40.2.2.1)] false false)), (some (.cells (F_B x50.2) false true))] .ret [(6, (.bool false))] [] ∧ lfe (rx_osmosislaw4_DiskKeeps_L5 keeps tail) (.inr (.inl false)) r)) ∧ ((isL x53) = false → (RunS (bexec C KK 125 WJ16_bbbbbbabklbbakbbba) 0 [(1, (l_LB tail)), (7, (.ptr (some (0, 0)))), (8, (.str s40.1)), (12, (.int .i64 x41)), (13, (.str x50.1)), (42, (l_I keeps)), (43, (.int .i64 (keeps.length : Int))), (44, (.int .i64 s40.2.1))] [(some (.cells [(.acc 1 0 1 x50.2.length true), (.int .i64 s40.2.2.1)] false false)), (some (.cells (F_B x50.2) false true))] .normal [(1, (l_LB tail)), (7, (.ptr (some (0, 0)))), (8, (.str s40.1)), (12, (.int .i64 x41)), (13, (.str x50.1)), (42, (l_I keeps)), (43, (.int .i64 (keeps.length : Int))), (44, (.int .i64 s40.2.1))] [(some (.cells [(.acc 1 0 1 x50.2.length true), (.int .i64 s40.2.2.1)] false false)), (some (.cells (F_B x50.2) false true))] ∧ (Spec C 26 [(.int .i64 x41), (.int .i64 (IntKind.i64.wrap ((x50.1.length : Int) + 9)))] [] (.int .i64 x55) [] ∧ (Spec C 26 [(.int .i64 x41), (.int .i64 (IntKind.i64.wrap ((x50.1.length : Int) + 9)))] [] (.int .i64 x56) [] ∧ (Spec C 59 [(.ptr (some (0, 0))), (.int .i64 (IntKind.i64.wrap (x56 - 3)))] [(some (.cells [(.acc 1 0 1 x50.2.length true), (.int .i64 s40.2.2.1)] false false)), (some (.cells (F_B x50.2) false true))] (.int .i64 x57.1) [(some (.cells [(.acc 2 0 1 x57.2.2.length true), (.int .i64 x57.2.1)] false false)), none, (some (.cells (F_B x57.2.2) false true))] ∧ (2 ≤ 3 ∧ (((x57.1 != (if (if (x50.1.length : Int) < (IntKind.i64.wrap (x55 - 3)) then (x50.1.length : Int) else (IntKind.i64.wrap (x55 - 3))) > 0 then (if (x50.1.length : Int) < (IntKind.i64.wrap (x55 - 3)) then (x50.1.length : Int) else (IntKind.i64.wrap (x55 - 3))) else 0)) = true → lfe (rx_osmosislaw4_DiskKeeps_L5 keeps tail) (.inr (.inl false)) r) ∧ ((x57.1 != (if (if (x50.1.length : Int) < (IntKind.i64.wrap (x55 - 3)) then (x50.1.length : Int) else (IntKind.i64.wrap (x55 - 3))) > 0 then (if (x50.1.length : Int) < (IntKind.i64.wrap (x55 - 3)) then (x50.1.length : Int) else (IntKind.i64.wrap (x55 - 3))) else 0)) = false → (wP (.sliceStr (.c (.str x50.1)) none (some (.c (.int .i64 (if (if (x50.1.length : Int) < (IntKind.i64.wrap (x55 - 3)) then (x50.1.length : Int) else (IntKind.i64.wrap (x55 - 3))) > 0 then (if (x50.1.length : Int) < (IntKind.i64.wrap (x55 - 3)) then (x50.1.length : Int) else (IntKind.i64.wrap (x55 - 3))) else 0))))) = some (.str x58) ∧ (aStrs .add s40.1 x58 = some (.str x59) ∧ (RunS (bexec C KK 125 WJ16_bbbbbbabklbbakbbbbbbba) 0 [(1, (l_LB tail)), (7, (.ptr (some (0, 0)))), (8, (.str x59)), (42, (l_I keeps)), (43, (.int .i64 (keeps.length : Int))), (44, (.int .i64 s40.2.1))] [(some (.cells [(.acc 1 0 1 x57.2.2.length true), (.int .i64 x57.2.1)] false false)), (some (.cells (F_B x57.2.2) false true))] .normal [(1, (l_LB tail)), (7, (.ptr (some (0, 0)))), (8, (.str x59)), (42, (l_I keeps)), (43, (.int .i64 (keeps.length : Int))), (44, (.int .i64 s40.2.1)), (120, (.bool x62))] [(some (.cells [(.acc 1 0 1 x57.2.2.length true), (.int .i64 x57.2.1)] false false)), (some (.cells (F_B x57.2.2) false true))] ∧ ((x62 = true → lfe (rx_osmosislaw4_DiskKeeps_L5 keeps tail) (.inr (.inl (decide ((x59.length : Int) > 30000)))) r) ∧ (x62 = false → lfe (rx_osmosislaw4_DiskKeeps_L5 keeps tail) (.inl (x59, (IntKind.i64.wrap (s40.2.1 + 1)), x57.2.1, x57.2.2)) r))))))))))))))))))) ∧ ((decide (s40.2.1 < (keeps.length : Int))) = false → lfe (rx_osmosislaw4_DiskKeeps_L5 keeps tail) (.inr (.inr ())) r)) := fun C => by kernel_rfl
  refine runS_of (fun _ _ h => by cases h) WB16_1_ok (Nat.le_of_ble_eq_true rfl) ((e _).mpr ?_)
  unfold osmosislaw4_DiskKeeps_L5_s at h
  refine ⟨fun hb => ?_, fun hb => ?_⟩
  · have h := cond_t hb h
    obtain ⟨q41, h⟩ := bget hx41 h
    refine ⟨wP_idx R_I q41, ?_⟩
    obtain ⟨q42, h⟩ := bget hx42 h
    refine ⟨s_osmosislaw4_some (d + 1) q42, ?_⟩
    refine ⟨by decide, ?_⟩
    obtain ⟨q50, h⟩ := bget hx50 h
    refine ⟨s_osmosislaw4_DiskKeeps_L2 (d + 0) q50, ?_⟩
    obtain ⟨q53, h⟩ := bget hx53 h
    refine ⟨fun hb54 => ?_, fun hb54 => ?_⟩
    · have h := cond_t hb54 h
      refine ⟨by have h := s_osmosislaw4_DiskKeeps_J3 (d + 2) q53; rw [isL_t hb54] at h; exact h, ?_⟩
      exact lfe_of h
    · have h := cond_f hb54 h
      refine ⟨by have h := s_osmosislaw4_DiskKeeps_J3 (d + 2) q53; rw [isL_f hb54] at h; exact h, ?_⟩
      obtain ⟨q55, h⟩ := bget hx55 h
      refine ⟨s_osmosishand_Pick (d + 2) q55, ?_⟩
      obtain ⟨q56, h⟩ := bget hx56 h
      refine ⟨s_osmosishand_Pick (d + 2) q56, ?_⟩
      obtain ⟨q57, h⟩ := bget hx57 h
      refine ⟨s_disk_Disk_Crash (d + 2) q57, ?_⟩
      refine ⟨by decide, ?_⟩
      refine ⟨fun hb => ?_, fun hb => ?_⟩
      · have h := cond_t hb h
        exact lfe_of h
      · have h := cond_f hb h
        obtain ⟨q58, h⟩ := bget hx58 h
        refine ⟨wP_slS_h q58, ?_⟩
        obtain ⟨q59, h⟩ := bget hx59 h
        refine ⟨wP_cat q59, ?_⟩
        obtain ⟨q62, h⟩ := bget hx62 h
        refine ⟨s_osmosislaw4_DiskKeeps_J4 (d + 1) q62, ?_⟩
        refine ⟨fun hb => ?_, fun hb => ?_⟩
        · have h := cond_t hb h
          exact lfe_of h
        · have h := cond_f hb h
          exact lfe_of h
  · have h := cond_f hb h
    exact lfe_of h
theorem s_osmosislaw4_DiskKeeps_L5 (d : Nat) {keeps : List Int} {tail : List (List UInt8)} {s40 : List UInt8 × Int × Int × List UInt8} {r : Bool ⊕ Unit} (h : osmosislaw4_DiskKeeps_L5 keeps tail s40 = some r) : RunX (bloop (bexec (wcalls atab (d + 3)) KK 125 WB16_1) [1, 7, 8, 42, 43, 44] KK) 0 (inL [1, 7, 8, 42, 43, 44] (st_osmosislaw4_DiskKeeps_L5 keeps tail s40)) (fin_osmosislaw4_DiskKeeps_L5 keeps tail r) :=
  loop_of (st := st_osmosislaw4_DiskKeeps_L5 keeps tail) (fin := fin_osmosislaw4_DiskKeeps_L5 keeps tail) (step := osmosislaw4_DiskKeeps_L5_s keeps tail) (fun e => by rcases e with e | e <;> (intro h; cases h)) (fun s x h => b_osmosislaw4_DiskKeeps_L5 d h) KK s40 r h

def osmosislaw4_DiskKeeps (synced : List (List UInt8)) (tail : List (List UInt8)) (keeps : List Int) : Option (Bool) :=
  (disk_New).bind fun (x1 : Int) => (osmosislaw4_DiskKeeps_J0 synced tail keeps x1).bind fun (x3 : Unit ⊕ Unit) => cond (isL x3) (some false) ((osmosislaw4_some synced).bind fun (x5 : List (List UInt8)) => (osmosislaw4_DiskKeeps_L1 x5 x1 tail keeps (([] : List UInt8), 0, [])).bind fun (x16 : (List UInt8 × List UInt8)) => (disk_Disk_Sync x1 x16.2).bind fun (x17 : Int × Int) => (osmosislaw4_DiskKeeps_L5 keeps tail (x16.1, 0, x17.2, x16.2)).bind fun (x63 : Bool ⊕ Unit) => cond (isL x63) (some (getL x63)) (some true))
def out_osmosislaw4_DiskKeeps (synced : List (List UInt8)) (tail : List (List UInt8)) (keeps : List Int) (r : Bool) : AV × WH := ((.bool r), [])

theorem s_osmosislaw4_DiskKeeps (d : Nat) {synced : List (List UInt8)} {tail : List (List UInt8)} {keeps : List Int} {r : Bool} (h : osmosislaw4_DiskKeeps synced tail keeps = some r) : Spec (wcalls atab (d + 5)) 16 [(l_LB synced), (l_LB tail), (l_I keeps)] [] (out_osmosislaw4_DiskKeeps synced tail keeps r).1 (out_osmosislaw4_DiskKeeps synced tail keeps r).2 := by
  obtain ⟨x1, hx1⟩ := wx (disk_New)
  obtain ⟨x3, hx3⟩ := wx (osmosislaw4_DiskKeeps_J0 synced tail keeps x1)
  obtain ⟨x5, hx5⟩ := wx (osmosislaw4_some synced)
  obtain ⟨x16, hx16⟩ := wx (osmosislaw4_DiskKeeps_L1 x5 x1 tail keeps (([] : List UInt8), 0, []))
  obtain ⟨x17, hx17⟩ := wx (disk_Disk_Sync x1 x16.2)
  obtain ⟨x63, hx63⟩ := wx (osmosislaw4_DiskKeeps_L5 keeps tail (x16.1, 0, x17.2, x16.2))
  have e : ∀ C : ACalls, wBody C (fun _ => none) KK WF16 [(l_LB synced), (l_LB tail), (l_I keeps)] [] (.call [] (some false) [] (.ptr (some (0, 0))) [(some (.cells [(.slice none 1 0 0 true), (.int .i64 x1)] false false))] (.ite (isL x3) (.jn [0, 1, 2, 7] [none, none, none, none] [] [] .ret [(6, (.bool false))] [] (.fin (some false) [] none)) (.jn [0, 1, 2, 7] [none, none, none, none] [] [] .normal [(0, (l_LB synced)), (1, (l_LB tail)), (2, (l_I keeps)), (7, (.ptr (some (0, 0))))] [(some (.cells [(.slice none 1 0 0 true), (.int .i64 x1)] false false))] (.call [] (some false) [] (l_LB x5) [] (.lp [none, none, none, none, none, none, none] [(some true), (some true)] [] (.exit 0) [(1, (l_LB tail)), (2, (l_I keeps)), (7, (.ptr (some (0, 0)))), (8, (.str x16.1))] [(some (.cells [(.acc 1 0 1 x16.2.length true), (.int .i64 x1)] false false)), (some (.cells (F_B x16.2) false true))] (.call [] none [] (.int .i64 x17.1) [(some (.cells [(.acc 1 0 1 x16.2.length true), (.int .i64 x17.2)] false false)), (some (.cells (F_B x16.2) false true))] (.ite (isL x63) (.lp [none, none, none, none, none, none] [] [] .ret [(6, (.bool (getL x63)))] [] (.fin (some false) [] none)) (.lp [none, none, none, none, none, none] [] [] (.exit 2) [] [] (.fin (some false) [] none))))))))) (out_osmosislaw4_DiskKeeps synced tail keeps r).1 (out_osmosislaw4_DiskKeeps synced tail keeps r).2 = (3 = 3 ∧ 3 ≤ 125 ∧ (Spec C 52 [] [] (.ptr (some (0, 0))) [(some (.cells [(.slice none 1 0 0 true), (.int .i64 x1)] false false))] ∧ (0 ≤ 1 ∧ (((isL x3) = true → (RunS (bexec C KK 125 WJ16_bba) 0 [(0, (l_LB synced)), (1, (l_LB tail)), (2, (l_I keeps)), (7, (.ptr (some (0, 0))))] [(some (.cells [(.slice none 1 0 0 true), (.int .i64 x1)] false false))] .ret [(6, (.bool false))] [] ∧ lff (out_osmosislaw4_DiskKeeps synced tail keeps) false r)) ∧ ((isL x3) = false → (RunS (bexec C KK 125 WJ16_bba) 0 [(0, (l_LB synced)), (1, (l_LB tail)), (2, (l_I keeps)), (7, (.ptr (some (0, 0))))] [(some (.cells [(.slice none 1 0 0 true), (.int .i64 x1)] false false))] .normal [(0, (l_LB synced)), (1, (l_LB tail)), (2, (l_I keeps)), (7, (.ptr (some (0, 0))))] [(some (.cells [(.slice none 1 0 0 true), (.int .i64 x1)] false false))] ∧ (Spec C 54 [(l_LB synced)] [] (l_LB x5) [] ∧ (0 ≤ 0 ∧ (RunS (bloop (bexec C KK 125 WB16_0) [1, 2, 7, 8, 25, 26, 27] KK) 0 [(1, (l_LB tail)), (2, (l_I keeps)), (7, (.ptr (some (0, 0)))), (8, (.str ([] : List UInt8))), (25, (l_LB x5)), (26, (.int .i64 (x5.length : Int))), (27, (.int .i64 0))] [(some (.cells [(.acc 1 0 1 0 true), (.int .i64 x1)] false false)), (some (.cells (F_B []) false true))] (.exit 0) [(1, (l_LB tail)), (2, (l_I keeps)), (7, (.ptr (some (0, 0)))), (8, (.str x16.1))] [(some (.cells [(.acc 1 0 1 x16.2.length true), (.int .i64 x1)] false false)), (some (.cells (F_B x16.2) false true))] ∧ (Spec C 56 [(.ptr (some (0, 0)))] [(some (.cells [(.acc 1 0 1 x16.2.length true), (.int .i64 x1)] false false)), (some (.cells (F_B x16.2) false true))] (.int .i64 x17.1) [(some (.cells [(.acc 1 0 1 x16.2.length true), (.int .i64 x17.2)] false false)), (some (.cells (F_B x16.2) false true))] ∧ (2 ≤ 2 ∧ (((isL x63) = true → (RunS (bloop (bexec C KK 125 WB16_1) [1, 7, 8, 42, 43, 44] KK) 0 [(1, (l_LB tail)), (7, (.ptr (some (0, 0)))), (8, (.str x16.1)), (42, (l_I keeps)), (43, (.int .i64 (keeps.length : Int))), (44, (.int .i64 0))] [(some (.cells [(.acc 1 0 1 x16.2.length true), (.int .i64 x17.2)] false false)), (some (.cells (F_B x16.2) false true))] .ret [(6, (.bool (getL x63)))] [] ∧ lff (out_osmosislaw4_DiskKeeps synced tail keeps) (getL x63) r)) ∧ ((isL x63) = false → (RunS (bloop (bexec C KK 125 WB16_1) [1, 7, 8, 42, 43, 44] KK) 0 [(1, (l_LB tail)), (7, (.ptr (some (0, 0)))), (8, (.str x16.1)), (42, (l_I keeps)), (43, (.int .i64 (keeps.length : Int))), (44, (.int .i64 0))] [(some (.cells [(.acc 1 0 1 x16.2.length true), (.int .i64 x17.2)] false false)), (some (.cells (F_B x16.2) false true))] (.exit 2) [] [] ∧ lff (out_osmosislaw4_DiskKeeps synced tail keeps) true r)))))))))))))) := fun C => by kernel_rfl
  refine spec_of (fun _ _ h => by cases h) rfl atab_16 WF16_ok ((e _).mpr ⟨rfl, by decide, ?_⟩)
  unfold osmosislaw4_DiskKeeps at h
  obtain ⟨q1, h⟩ := bget hx1 h
  refine ⟨s_disk_New (d + 3) q1, ?_⟩
  refine ⟨by decide, ?_⟩
  obtain ⟨q3, h⟩ := bget hx3 h
  refine ⟨fun hb4 => ?_, fun hb4 => ?_⟩
  · have h := cond_t hb4 h
    refine ⟨by have h := s_osmosislaw4_DiskKeeps_J0 (d + 0) q3; rw [isL_t hb4] at h; exact h, ?_⟩
    exact lff_of h
  · have h := cond_f hb4 h
    refine ⟨by have h := s_osmosislaw4_DiskKeeps_J0 (d + 0) q3; rw [isL_f hb4] at h; exact h, ?_⟩
    obtain ⟨q5, h⟩ := bget hx5 h
    refine ⟨s_osmosislaw4_some (d + 2) q5, ?_⟩
    refine ⟨by decide, ?_⟩
    obtain ⟨q16, h⟩ := bget hx16 h
    refine ⟨s_osmosislaw4_DiskKeeps_L1 (d + 1) q16, ?_⟩
    obtain ⟨q17, h⟩ := bget hx17 h
    refine ⟨s_disk_Disk_Sync (d + 3) q17, ?_⟩
    refine ⟨by decide, ?_⟩
    obtain ⟨q63, h⟩ := bget hx63 h
    refine ⟨fun hb64 => ?_, fun hb64 => ?_⟩
    · have h := cond_t hb64 h
      refine ⟨by have h := s_osmosislaw4_DiskKeeps_L5 (d + 1) q63; rw [isL_t hb64] at h; exact h, ?_⟩
      exact lff_of h
    · have h := cond_f hb64 h
      refine ⟨by have h := s_osmosislaw4_DiskKeeps_L5 (d + 1) q63; rw [isL_f hb64] at h; exact h, ?_⟩
      exact lff_of h

end Go.Proofs.Yteibgagdnidojaa
