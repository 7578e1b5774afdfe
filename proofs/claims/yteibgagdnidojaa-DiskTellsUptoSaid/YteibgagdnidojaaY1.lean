/- Functions as Lean functions, part 1. -/
import Derived.Test.YteibgagdnidojaaXt
import Derived.Test.YteibgagdnidojaaXs
set_option linter.all false
set_option maxRecDepth 100000
namespace Go.Proofs.Yteibgagdnidojaa
/- osmosis/disk.New -/
def disk_New  : Option (Int) :=
  some 0
def out_disk_New (r : Int) : AV × WH := ((.ptr (some (0, 0))), [(some (.cells [(.slice none 1 0 0 true), (.int .i64 r)] false false))])

theorem s_disk_New (d : Nat)  {r : Int} (h : disk_New = some r) : Spec (wcalls atab (d + 1)) 52 [] [] (out_disk_New r).1 (out_disk_New r).2 := by
  have e : ∀ C : ACalls, wBody C (fun _ => none) KK WF52 [] [] (.fin (some false) [] none) (out_disk_New r).1 (out_disk_New r).2 = (0 = 0 ∧ 0 ≤ 3 ∧ lff out_disk_New 0 r) := fun C => by kernel_rfl
  refine spec_of (fun _ _ h => by cases h) rfl atab_52 WF52_ok ((e _).mpr ⟨rfl, by decide, ?_⟩)
  unfold disk_New at h
  exact lff_of h

/- slices.Concat[[]byte,byte] -/
def st_slices_Concat_byte_byte_L0 (a0 : List (List UInt8)) (s2 : Int × Int) : List AV × WH := ([(l_LB a0), (.int .i64 s2.1), (l_LB a0), (.int .i64 (a0.length : Int)), (.int .i64 s2.2)], [])
def fin_slices_Concat_byte_byte_L0 (a0 : List (List UInt8)) : Int → Ex × Fast × WH := fun e => ((.exit 0), [(0, (l_LB a0)), (3, (.int .i64 e))], [])
abbrev rx_slices_Concat_byte_byte_L0 (a0 : List (List UInt8)) := roundX [0, 3, 9, 10, 11] (st_slices_Concat_byte_byte_L0 a0) (fin_slices_Concat_byte_byte_L0 a0)
def slices_Concat_byte_byte_L0_s (a0 : List (List UInt8)) (s2 : Int × Int) : Option ((Int × Int) ⊕ (Int)) :=
  cond (decide (s2.2 < (a0.length : Int))) ((getI a0 s2.2).bind fun (x3 : List UInt8) => cond (decide ((IntKind.i64.wrap (s2.1 + (x3.length : Int))) < 0)) (none) (some (.inl ((IntKind.i64.wrap (s2.1 + (x3.length : Int))), (IntKind.i64.wrap (s2.2 + 1)))))) (some (.inr s2.1))
def slices_Concat_byte_byte_L0 (a0 : List (List UInt8)) (s2 : Int × Int) : Option (Int) := loopX (slices_Concat_byte_byte_L0_s a0) KK s2
theorem b_slices_Concat_byte_byte_L0 (d : Nat) {a0 : List (List UInt8)} {s2 : Int × Int} {r : (Int × Int) ⊕ (Int)} (h : slices_Concat_byte_byte_L0_s a0 s2 = some r) : RunX (bexec (wcalls atab (d + 0)) KK 36 WB82_0) 0 (inL [0, 3, 9, 10, 11] (st_slices_Concat_byte_byte_L0 a0 s2)) (rx_slices_Concat_byte_byte_L0 a0 r) := by
  obtain ⟨x3, hx3⟩ := wx (getI a0 s2.2)
  have e : ∀ C : ACalls, wCode C (fun _ => none) KK 36 0 WB82_0 (inL [0, 3, 9, 10, 11] (st_slices_Concat_byte_byte_L0 a0 s2)).1 (inL [0, 3, 9, 10, 11] (st_slices_Concat_byte_byte_L0 a0 s2)).2 (.br 12 (.v 13 (.elem ([(l_B x3)] ++ F_LB (a0.drop (s2.2.toNat + 1)))) (.br 20 (.nil) (.en [0, 3, 9, 10, 11] [none, none, none, none, none] [] []))) (.en [0, 3] [none, none] [] [])) (rx_slices_Concat_byte_byte_L0 a0 r) = (((decide (s2.2 < (a0.length : Int))) = true → (wP (.idxSlice 1 (.c (l_LB a0)) (.c (.int .i64 s2.2))) = some (.elem ([(l_B x3)] ++ F_LB (a0.drop (s2.2.toNat + 1)))) ∧ (((decide ((IntKind.i64.wrap (s2.1 + (x3.length : Int))) < 0)) = true → False) ∧ ((decide ((IntKind.i64.wrap (s2.1 + (x3.length : Int))) < 0)) = false → lfe (rx_slices_Concat_byte_byte_L0 a0) (.inl ((IntKind.i64.wrap (s2.1 + (x3.length : Int))), (IntKind.i64.wrap (s2.2 + 1)))) r)))) ∧ ((decide (s2.2 < (a0.length : Int))) = false → lfe (rx_slices_Concat_byte_byte_L0 a0) (.inr s2.1) r)) := fun C => by kernel_rfl
  refine runS_of (fun _ _ h => by cases h) WB82_0_ok (Nat.le_of_ble_eq_true rfl) ((e _).mpr ?_)
  unfold slices_Concat_byte_byte_L0_s at h
  refine ⟨fun hb => ?_, fun hb => ?_⟩
  · have h := cond_t hb h
    obtain ⟨q3, h⟩ := bget hx3 h
    refine ⟨wP_idx R_LB q3, ?_⟩
    refine ⟨fun hb => ?_, fun hb => ?_⟩
    · have h := cond_t hb h
      cases h
    · have h := cond_f hb h
      exact lfe_of h
  · have h := cond_f hb h
    exact lfe_of h
theorem s_slices_Concat_byte_byte_L0 (d : Nat) {a0 : List (List UInt8)} {s2 : Int × Int} {r : Int} (h : slices_Concat_byte_byte_L0 a0 s2 = some r) : RunX (bloop (bexec (wcalls atab (d + 0)) KK 36 WB82_0) [0, 3, 9, 10, 11] KK) 0 (inL [0, 3, 9, 10, 11] (st_slices_Concat_byte_byte_L0 a0 s2)) (fin_slices_Concat_byte_byte_L0 a0 r) :=
  loop_of (st := st_slices_Concat_byte_byte_L0 a0) (fin := fin_slices_Concat_byte_byte_L0 a0) (step := slices_Concat_byte_byte_L0_s a0) (fun e => by (intro h; cases h)) (fun s x h => b_slices_Concat_byte_byte_L0 d h) KK s2 r h

def st_slices_Concat_byte_byte_L1 (a0 : List (List UInt8)) (s8 : Int × List UInt8) : List AV × WH := ([(.acc 0 0 1 s8.2.length true), (l_LB a0), (.int .i64 (a0.length : Int)), (.int .i64 s8.1)], [(some (.cells (F_B s8.2) false true))])
def fin_slices_Concat_byte_byte_L1 (a0 : List (List UInt8)) : (List UInt8) → Ex × Fast × WH := fun e => ((.exit 2), [(6, (.acc 0 0 1 e.length true))], [(some (.cells (F_B e) false true))])
abbrev rx_slices_Concat_byte_byte_L1 (a0 : List (List UInt8)) := roundX [6, 25, 26, 27] (st_slices_Concat_byte_byte_L1 a0) (fin_slices_Concat_byte_byte_L1 a0)
def slices_Concat_byte_byte_L1_s (a0 : List (List UInt8)) (s8 : Int × List UInt8) : Option ((Int × List UInt8) ⊕ ((List UInt8))) :=
  cond (decide (s8.1 < (a0.length : Int))) ((getI a0 s8.1).bind fun (x9 : List UInt8) => gd (fitsB 1 (s8.2 ++ x9).length) (some (.inl ((IntKind.i64.wrap (s8.1 + 1)), (s8.2 ++ x9))))) (some (.inr s8.2))
def slices_Concat_byte_byte_L1 (a0 : List (List UInt8)) (s8 : Int × List UInt8) : Option ((List UInt8)) := loopX (slices_Concat_byte_byte_L1_s a0) KK s8
theorem b_slices_Concat_byte_byte_L1 (d : Nat) {a0 : List (List UInt8)} {s8 : Int × List UInt8} {r : (Int × List UInt8) ⊕ ((List UInt8))} (h : slices_Concat_byte_byte_L1_s a0 s8 = some r) : RunX (bexec (wcalls atab (d + 0)) KK 36 WB82_1) 0 (inL [6, 25, 26, 27] (st_slices_Concat_byte_byte_L1 a0 s8)) (rx_slices_Concat_byte_byte_L1 a0 r) := by
  obtain ⟨x9, hx9⟩ := wx (getI a0 s8.1)
  have e : ∀ C : ACalls, wCode C (fun _ => none) KK 36 0 WB82_1 (inL [6, 25, 26, 27] (st_slices_Concat_byte_byte_L1 a0 s8)).1 (inL [6, 25, 26, 27] (st_slices_Concat_byte_byte_L1 a0 s8)).2 (.br 28 (.v 29 (.elem ([(l_B x9)] ++ F_LB (a0.drop (s8.1.toNat + 1)))) (.ap 33 (s8.2 ++ x9).length (F_B (s8.2 ++ x9)) (.en [6, 25, 26, 27] [none, none, none, none] [] []))) (.en [6] [none] [] [])) (rx_slices_Concat_byte_byte_L1 a0 r) = (((decide (s8.1 < (a0.length : Int))) = true → (wP (.idxSlice 1 (.c (l_LB a0)) (.c (.int .i64 s8.1))) = some (.elem ([(l_B x9)] ++ F_LB (a0.drop (s8.1.toNat + 1)))) ∧ (s8.2.length + x9.length = (s8.2 ++ x9).length ∧ (F_B s8.2 ++ F_B x9 = F_B (s8.2 ++ x9) ∧ (fitsB 1 (s8.2 ++ x9).length = true ∧ lfe (rx_slices_Concat_byte_byte_L1 a0) (.inl ((IntKind.i64.wrap (s8.1 + 1)), (s8.2 ++ x9))) r))))) ∧ ((decide (s8.1 < (a0.length : Int))) = false → lfe (rx_slices_Concat_byte_byte_L1 a0) (.inr s8.2) r)) := fun C => by kernel_rfl
  refine runS_of (fun _ _ h => by cases h) WB82_1_ok (Nat.le_of_ble_eq_true rfl) ((e _).mpr ?_)
  unfold slices_Concat_byte_byte_L1_s at h
  refine ⟨fun hb => ?_, fun hb => ?_⟩
  · have h := cond_t hb h
    obtain ⟨q9, h⟩ := bget hx9 h
    refine ⟨wP_idx R_LB q9, ?_⟩
    obtain ⟨q10, h⟩ := gd_some h
    refine ⟨app_len _ _, ?_⟩
    refine ⟨(Row.app R_B _ _).symm, ?_⟩
    refine ⟨q10, ?_⟩
    exact lfe_of h
  · have h := cond_f hb h
    exact lfe_of h
theorem s_slices_Concat_byte_byte_L1 (d : Nat) {a0 : List (List UInt8)} {s8 : Int × List UInt8} {r : (List UInt8)} (h : slices_Concat_byte_byte_L1 a0 s8 = some r) : RunX (bloop (bexec (wcalls atab (d + 0)) KK 36 WB82_1) [6, 25, 26, 27] KK) 0 (inL [6, 25, 26, 27] (st_slices_Concat_byte_byte_L1 a0 s8)) (fin_slices_Concat_byte_byte_L1 a0 r) :=
  loop_of (st := st_slices_Concat_byte_byte_L1 a0) (fin := fin_slices_Concat_byte_byte_L1 a0) (step := slices_Concat_byte_byte_L1_s a0) (fun e => by (intro h; cases h)) (fun s x h => b_slices_Concat_byte_byte_L1 d h) KK s8 r h

def slices_Concat_byte_byte (a0 : List (List UInt8)) : Option (List UInt8) :=
  (slices_Concat_byte_byte_L0 a0 (0, 0)).bind fun (x4 : Int) => gd (growB 1 x4) ((slices_Concat_byte_byte_L1 a0 (0, ([] : List UInt8))).bind fun (x11 : (List UInt8)) => some x11)
def out_slices_Concat_byte_byte (a0 : List (List UInt8)) (r : List UInt8) : AV × WH := ((l_B r), [])

theorem s_slices_Concat_byte_byte (d : Nat) {a0 : List (List UInt8)} {r : List UInt8} (h : slices_Concat_byte_byte a0 = some r) : Spec (wcalls atab (d + 2)) 82 [(l_LB a0)] [] (out_slices_Concat_byte_byte a0 r).1 (out_slices_Concat_byte_byte a0 r).2 := by
  obtain ⟨x4, hx4⟩ := wx (slices_Concat_byte_byte_L0 a0 (0, 0))
  obtain ⟨x11, hx11⟩ := wx (slices_Concat_byte_byte_L1 a0 (0, ([] : List UInt8)))
  have e : ∀ C : ACalls, wBody C wB KK WF82 [(l_LB a0)] [] (.lp [none, none, none, none, none] [] [] (.exit 0) [(0, (l_LB a0)), (3, (.int .i64 x4))] [] (.lp [none, none, none, none] [] [] (.exit 2) [(6, (.acc 0 0 1 x11.length true))] [(some (.cells (F_B x11) false true))] (.fin (some false) [] none))) (out_slices_Concat_byte_byte a0 r).1 (out_slices_Concat_byte_byte a0 r).2 = (1 = 1 ∧ 1 ≤ 36 ∧ (RunS (bloop (bexec C KK 36 WB82_0) [0, 3, 9, 10, 11] KK) 0 [(0, (l_LB a0)), (3, (.int .i64 0)), (9, (l_LB a0)), (10, (.int .i64 (a0.length : Int))), (11, (.int .i64 0))] [] (.exit 0) [(0, (l_LB a0)), (3, (.int .i64 x4))] [] ∧ ((0 ≤ x4 ∧ x4 ≤ 70368744177664 ∧ 1 * (x4).toNat ≤ 281474976710656 ∧ (x4).toNat * 1 ≤ 70368744177664) ∧ (RunS (bloop (bexec C KK 36 WB82_1) [6, 25, 26, 27] KK) 0 [(6, (.acc 0 0 1 0 true)), (25, (l_LB a0)), (26, (.int .i64 (a0.length : Int))), (27, (.int .i64 0))] [(some (.cells (F_B ([] : List UInt8)) false true))] (.exit 2) [(6, (.acc 0 0 1 x11.length true))] [(some (.cells (F_B x11) false true))] ∧ lff (out_slices_Concat_byte_byte a0) x11 r)))) := fun C => by kernel_rfl
  refine spec_of (wB_ok _) rfl atab_82 WF82_ok ((e _).mpr ⟨rfl, by decide, ?_⟩)
  unfold slices_Concat_byte_byte at h
  obtain ⟨q4, h⟩ := bget hx4 h
  refine ⟨s_slices_Concat_byte_byte_L0 (d + 1) q4, ?_⟩
  obtain ⟨q5, h⟩ := gd_some h
  refine ⟨of_decide_eq_true q5, ?_⟩
  obtain ⟨q11, h⟩ := bget hx11 h
  refine ⟨s_slices_Concat_byte_byte_L1 (d + 1) q11, ?_⟩
  exact lff_of h

/- (*osmosis/disk.Disk).Append -/
def disk_Disk_Append (parts : List (List UInt8)) (p_d : Int) : Option (Bool × List UInt8) :=
  (slices_Concat_byte_byte parts).bind fun (x1 : List UInt8) => cond (decide ((IntKind.i64.wrap (0 + (x1.length : Int))) > 65536)) (some (false, [])) (gd (fitsB 1 x1.length) (some (true, x1)))
def out_disk_Disk_Append (parts : List (List UInt8)) (p_d : Int) (r : Bool × List UInt8) : AV × WH := ((.bool r.1), [(some (.cells [(.acc 1 0 1 r.2.length true), (.int .i64 p_d)] false false)), (some (.cells (F_B r.2) false true))])

theorem s_disk_Disk_Append (d : Nat) {parts : List (List UInt8)} {p_d : Int} {r : Bool × List UInt8} (h : disk_Disk_Append parts p_d = some r) : Spec (wcalls atab (d + 3)) 55 [(.ptr (some (0, 0))), (l_LB parts)] [(some (.cells [(.slice none 1 0 0 true), (.int .i64 p_d)] false false))] (out_disk_Disk_Append parts p_d r).1 (out_disk_Disk_Append parts p_d r).2 := by
  obtain ⟨x1, hx1⟩ := wx (slices_Concat_byte_byte parts)
  have e : ∀ C : ACalls, wBody C (fun _ => none) KK WF55 [(.ptr (some (0, 0))), (l_LB parts)] [(some (.cells [(.slice none 1 0 0 true), (.int .i64 p_d)] false false))] (.call [] (some false) [] (l_B x1) [] (.br 16 (.fin (some false) [] (some true)) (.ap 23 x1.length (F_B x1) (.st none (.fin (some false) [] (some true)))))) (out_disk_Disk_Append parts p_d r).1 (out_disk_Disk_Append parts p_d r).2 = (2 = 2 ∧ 2 ≤ 26 ∧ (Spec C 82 [(l_LB parts)] [] (l_B x1) [] ∧ (0 ≤ 0 ∧ (((decide ((IntKind.i64.wrap (0 + (x1.length : Int))) > 65536)) = true → (@Eq AV (.bool false) (out_disk_Disk_Append parts p_d r).1 ∧ @Eq WH [(some (.cells [(.acc 1 0 1 0 true), (.int .i64 p_d)] false false)), (some (.cells (F_B []) false true))] (out_disk_Disk_Append parts p_d r).2)) ∧ ((decide ((IntKind.i64.wrap (0 + (x1.length : Int))) > 65536)) = false → (0 + x1.length = x1.length ∧ (F_B [] ++ F_B x1 = F_B x1 ∧ (fitsB 1 x1.length = true ∧ lff (out_disk_Disk_Append parts p_d) (true, x1) r)))))))) := fun C => by kernel_rfl
  refine spec_of (fun _ _ h => by cases h) rfl atab_55 WF55_ok ((e _).mpr ⟨rfl, by decide, ?_⟩)
  unfold disk_Disk_Append at h
  obtain ⟨q1, h⟩ := bget hx1 h
  refine ⟨s_slices_Concat_byte_byte (d + 0) q1, ?_⟩
  refine ⟨by decide, ?_⟩
  refine ⟨fun hb => ?_, fun hb => ?_⟩
  · have h := cond_t hb h
    obtain rfl := Option.some.inj h
    refine ⟨?_, ?_⟩ <;> first | rfl | (simp only [out_disk_Disk_Append, List.length_set, List.length_append, List.length_replicate, List.length_cons, List.length_nil, List.length_take, List.length_drop, Nat.add_zero, Nat.zero_add]; done) | simp [out_disk_Disk_Append]
  · have h := cond_f hb h
    obtain ⟨q2, h⟩ := gd_some h
    refine ⟨by simp, ?_⟩
    refine ⟨by first | rfl | simp [F_B], ?_⟩
    refine ⟨q2, ?_⟩
    exact lff_of h

/- (*osmosis/disk.Disk).Sync -/
def disk_Disk_Sync (p_d : Int) (p_b1 : List UInt8) : Option (Int × Int) :=
  some ((IntKind.i64.wrap ((p_b1.length : Int) - p_d)), (p_b1.length : Int))
def out_disk_Disk_Sync (p_d : Int) (p_b1 : List UInt8) (r : Int × Int) : AV × WH := ((.int .i64 r.1), [(some (.cells [(.acc 1 0 1 p_b1.length true), (.int .i64 r.2)] false false)), (some (.cells (F_B p_b1) false true))])

theorem s_disk_Disk_Sync (d : Nat) {p_d : Int} {p_b1 : List UInt8} {r : Int × Int} (h : disk_Disk_Sync p_d p_b1 = some r) : Spec (wcalls atab (d + 1)) 56 [(.ptr (some (0, 0)))] [(some (.cells [(.acc 1 0 1 p_b1.length true), (.int .i64 p_d)] false false)), (some (.cells (F_B p_b1) false true))] (out_disk_Disk_Sync p_d p_b1 r).1 (out_disk_Disk_Sync p_d p_b1 r).2 := by
  have e : ∀ C : ACalls, wBody C (fun _ => none) KK WF56 [(.ptr (some (0, 0)))] [(some (.cells [(.acc 1 0 1 p_b1.length true), (.int .i64 p_d)] false false)), (some (.cells (F_B p_b1) false true))] (.st none (.fin (some false) [] none)) (out_disk_Disk_Sync p_d p_b1 r).1 (out_disk_Disk_Sync p_d p_b1 r).2 = (1 = 1 ∧ 1 ≤ 23 ∧ lff (out_disk_Disk_Sync p_d p_b1) ((IntKind.i64.wrap ((p_b1.length : Int) - p_d)), (p_b1.length : Int)) r) := fun C => by kernel_rfl
  refine spec_of (fun _ _ h => by cases h) rfl atab_56 WF56_ok ((e _).mpr ⟨rfl, by decide, ?_⟩)
  unfold disk_Disk_Sync at h
  exact lff_of h

/- (*osmosis/disk.Disk).Append -/
def disk_Disk_Append_2 (parts : List (List UInt8)) (p_d : Int) (p_b1 : List UInt8) : Option (Bool × List UInt8) :=
  (slices_Concat_byte_byte parts).bind fun (x1 : List UInt8) => cond (decide ((IntKind.i64.wrap ((p_b1.length : Int) + (x1.length : Int))) > 65536)) (some (false, p_b1)) (gd (fitsB 1 (p_b1 ++ x1).length) (some (true, (p_b1 ++ x1))))
def out_disk_Disk_Append_2 (parts : List (List UInt8)) (p_d : Int) (p_b1 : List UInt8) (r : Bool × List UInt8) : AV × WH := ((.bool r.1), [(some (.cells [(.acc 2 0 1 r.2.length true), (.int .i64 p_d)] false false)), none, (some (.cells (F_B r.2) false true))])

theorem s_disk_Disk_Append_2 (d : Nat) {parts : List (List UInt8)} {p_d : Int} {p_b1 : List UInt8} {r : Bool × List UInt8} (h : disk_Disk_Append_2 parts p_d p_b1 = some r) : Spec (wcalls atab (d + 3)) 55 [(.ptr (some (0, 0))), (l_LB parts)] [(some (.cells [(.acc 1 0 1 p_b1.length true), (.int .i64 p_d)] false false)), (some (.cells (F_B p_b1) false true))] (out_disk_Disk_Append_2 parts p_d p_b1 r).1 (out_disk_Disk_Append_2 parts p_d p_b1 r).2 := by
  obtain ⟨x1, hx1⟩ := wx (slices_Concat_byte_byte parts)
  have e : ∀ C : ACalls, wBody C (fun _ => none) KK WF55 [(.ptr (some (0, 0))), (l_LB parts)] [(some (.cells [(.acc 1 0 1 p_b1.length true), (.int .i64 p_d)] false false)), (some (.cells (F_B p_b1) false true))] (.call [] (some false) [] (l_B x1) [] (.br 16 (.fin (some false) [] (some true)) (.ap 23 (p_b1 ++ x1).length (F_B (p_b1 ++ x1)) (.st none (.fin (some false) [] (some true)))))) (out_disk_Disk_Append_2 parts p_d p_b1 r).1 (out_disk_Disk_Append_2 parts p_d p_b1 r).2 = (2 = 2 ∧ 2 ≤ 26 ∧ (Spec C 82 [(l_LB parts)] [] (l_B x1) [] ∧ (0 ≤ 0 ∧ (((decide ((IntKind.i64.wrap ((p_b1.length : Int) + (x1.length : Int))) > 65536)) = true → lff (out_disk_Disk_Append_2 parts p_d p_b1) (false, p_b1) r) ∧ ((decide ((IntKind.i64.wrap ((p_b1.length : Int) + (x1.length : Int))) > 65536)) = false → (p_b1.length + x1.length = (p_b1 ++ x1).length ∧ (F_B p_b1 ++ F_B x1 = F_B (p_b1 ++ x1) ∧ (fitsB 1 (p_b1 ++ x1).length = true ∧ lff (out_disk_Disk_Append_2 parts p_d p_b1) (true, (p_b1 ++ x1)) r)))))))) := fun C => by kernel_rfl
  refine spec_of (fun _ _ h => by cases h) rfl atab_55 WF55_ok ((e _).mpr ⟨rfl, by decide, ?_⟩)
  unfold disk_Disk_Append_2 at h
  obtain ⟨q1, h⟩ := bget hx1 h
  refine ⟨s_slices_Concat_byte_byte (d + 0) q1, ?_⟩
  refine ⟨by decide, ?_⟩
  refine ⟨fun hb => ?_, fun hb => ?_⟩
  · have h := cond_t hb h
    exact lff_of h
  · have h := cond_f hb h
    obtain ⟨q2, h⟩ := gd_some h
    refine ⟨app_len _ _, ?_⟩
    refine ⟨(Row.app R_B _ _).symm, ?_⟩
    refine ⟨q2, ?_⟩
    exact lff_of h

/- (*osmosis/disk.Disk).Crash -/
def disk_Disk_Crash (keep : Int) (p_d : Int) (p_b1 : List UInt8) : Option (Int × Int × List UInt8) :=
  (slI p_b1 0 (IntKind.i64.wrap (p_d + (if (if (IntKind.i64.wrap ((p_b1.length : Int) - p_d)) < keep then (IntKind.i64.wrap ((p_b1.length : Int) - p_d)) else keep) > 0 then (if (IntKind.i64.wrap ((p_b1.length : Int) - p_d)) < keep then (IntKind.i64.wrap ((p_b1.length : Int) - p_d)) else keep) else 0)))).bind fun (x1 : List UInt8) => some ((if (if (IntKind.i64.wrap ((p_b1.length : Int) - p_d)) < keep then (IntKind.i64.wrap ((p_b1.length : Int) - p_d)) else keep) > 0 then (if (IntKind.i64.wrap ((p_b1.length : Int) - p_d)) < keep then (IntKind.i64.wrap ((p_b1.length : Int) - p_d)) else keep) else 0), (IntKind.i64.wrap (p_d + (if (if (IntKind.i64.wrap ((p_b1.length : Int) - p_d)) < keep then (IntKind.i64.wrap ((p_b1.length : Int) - p_d)) else keep) > 0 then (if (IntKind.i64.wrap ((p_b1.length : Int) - p_d)) < keep then (IntKind.i64.wrap ((p_b1.length : Int) - p_d)) else keep) else 0))), x1)
def out_disk_Disk_Crash (keep : Int) (p_d : Int) (p_b1 : List UInt8) (r : Int × Int × List UInt8) : AV × WH := ((.int .i64 r.1), [(some (.cells [(.acc 2 0 1 r.2.2.length true), (.int .i64 r.2.1)] false false)), none, (some (.cells (F_B r.2.2) false true))])

theorem s_disk_Disk_Crash (d : Nat) {keep : Int} {p_d : Int} {p_b1 : List UInt8} {r : Int × Int × List UInt8} (h : disk_Disk_Crash keep p_d p_b1 = some r) : Spec (wcalls atab (d + 1)) 59 [(.ptr (some (0, 0))), (.int .i64 keep)] [(some (.cells [(.acc 1 0 1 p_b1.length true), (.int .i64 p_d)] false false)), (some (.cells (F_B p_b1) false true))] (out_disk_Disk_Crash keep p_d p_b1 r).1 (out_disk_Disk_Crash keep p_d p_b1 r).2 := by
  obtain ⟨x1, hx1⟩ := wx (slI p_b1 0 (IntKind.i64.wrap (p_d + (if (if (IntKind.i64.wrap ((p_b1.length : Int) - p_d)) < keep then (IntKind.i64.wrap ((p_b1.length : Int) - p_d)) else keep) > 0 then (if (IntKind.i64.wrap ((p_b1.length : Int) - p_d)) < keep then (IntKind.i64.wrap ((p_b1.length : Int) - p_d)) else keep) else 0))))
  have e : ∀ C : ACalls, wBody C (fun _ => none) KK WF59 [(.ptr (some (0, 0))), (.int .i64 keep)] [(some (.cells [(.acc 1 0 1 p_b1.length true), (.int .i64 p_d)] false false)), (some (.cells (F_B p_b1) false true))] (.st none (.v 35 (.acc 1 0 1 x1.length false) (.st none (.fin (some false) [] (some true))))) (out_disk_Disk_Crash keep p_d p_b1 r).1 (out_disk_Disk_Crash keep p_d p_b1 r).2 = (2 = 2 ∧ 2 ≤ 39 ∧ (wP (.slice 1 (.c (.acc 1 0 1 p_b1.length true)) none (some (.c (.int .i64 (IntKind.i64.wrap (p_d + (if (if (IntKind.i64.wrap ((p_b1.length : Int) - p_d)) < keep then (IntKind.i64.wrap ((p_b1.length : Int) - p_d)) else keep) > 0 then (if (IntKind.i64.wrap ((p_b1.length : Int) - p_d)) < keep then (IntKind.i64.wrap ((p_b1.length : Int) - p_d)) else keep) else 0)))))) none) = some (.acc 1 0 1 x1.length false) ∧ (@Eq AV (.int .i64 (if (if (IntKind.i64.wrap ((p_b1.length : Int) - p_d)) < keep then (IntKind.i64.wrap ((p_b1.length : Int) - p_d)) else keep) > 0 then (if (IntKind.i64.wrap ((p_b1.length : Int) - p_d)) < keep then (IntKind.i64.wrap ((p_b1.length : Int) - p_d)) else keep) else 0)) (out_disk_Disk_Crash keep p_d p_b1 r).1 ∧ @Eq WH [(some (.cells [(.acc 2 0 1 x1.length true), (.int .i64 (IntKind.i64.wrap (p_d + (if (if (IntKind.i64.wrap ((p_b1.length : Int) - p_d)) < keep then (IntKind.i64.wrap ((p_b1.length : Int) - p_d)) else keep) > 0 then (if (IntKind.i64.wrap ((p_b1.length : Int) - p_d)) < keep then (IntKind.i64.wrap ((p_b1.length : Int) - p_d)) else keep) else 0))))] false false)), none, (some (.cells ((F_B p_b1).take (x1.length * 1)) false true))] (out_disk_Disk_Crash keep p_d p_b1 r).2))) := fun C => by kernel_rfl
  refine spec_of (fun _ _ h => by cases h) rfl atab_59 WF59_ok ((e _).mpr ⟨rfl, by decide, ?_⟩)
  unfold disk_Disk_Crash at h
  obtain ⟨q1, h⟩ := bget hx1 h
  refine ⟨wP_slA_h R_B q1, ?_⟩
  try rw [take_row R_B q1]
  try rw [part_row0 R_B q1]
  obtain rfl := Option.some.inj h
  refine ⟨?_, ?_⟩ <;> first | rfl | (simp only [out_disk_Disk_Crash, List.length_set, List.length_append, List.length_replicate, List.length_cons, List.length_nil, List.length_take, List.length_drop, Nat.add_zero, Nat.zero_add]; done) | simp [out_disk_Disk_Crash]

/- (*osmosis/disk.Disk).Bytes -/
def disk_Disk_Bytes (p_d : Int) (p_b1 : List UInt8) : Option (List UInt8) :=
  gd (fitsB 1 p_b1.length) (some p_b1)
def out_disk_Disk_Bytes (p_d : Int) (p_b1 : List UInt8) (r : List UInt8) : AV × WH := ((l_B r), [(some (.cells [(.acc 1 0 1 p_b1.length true), (.int .i64 p_d)] false false)), (some (.cells (F_B p_b1) false true))])

theorem s_disk_Disk_Bytes (d : Nat) {p_d : Int} {p_b1 : List UInt8} {r : List UInt8} (h : disk_Disk_Bytes p_d p_b1 = some r) : Spec (wcalls atab (d + 2)) 60 [(.ptr (some (0, 0)))] [(some (.cells [(.acc 1 0 1 p_b1.length true), (.int .i64 p_d)] false false)), (some (.cells (F_B p_b1) false true))] (out_disk_Disk_Bytes p_d p_b1 r).1 (out_disk_Disk_Bytes p_d p_b1 r).2 := by
  have e : ∀ C : ACalls, wBody C wB KK WF60 [(.ptr (some (0, 0)))] [(some (.cells [(.acc 1 0 1 p_b1.length true), (.int .i64 p_d)] false false)), (some (.cells (F_B p_b1) false true))] (.fin (some false) [] none) (out_disk_Disk_Bytes p_d p_b1 r).1 (out_disk_Disk_Bytes p_d p_b1 r).2 = (1 = 1 ∧ 1 ≤ 9 ∧ (fitsB 1 p_b1.length = true ∧ lff (out_disk_Disk_Bytes p_d p_b1) p_b1 r)) := fun C => by kernel_rfl
  refine spec_of (wB_ok _) rfl atab_60 WF60_ok ((e _).mpr ⟨rfl, by decide, ?_⟩)
  unfold disk_Disk_Bytes at h
  obtain ⟨q1, h⟩ := gd_some h
  refine ⟨q1, ?_⟩
  exact lff_of h

/- (*osmosis/disk.Disk).Synced -/
def disk_Disk_Synced (p_d : Int) (p_b1 : List UInt8) : Option (Int) :=
  some p_d
def out_disk_Disk_Synced (p_d : Int) (p_b1 : List UInt8) (r : Int) : AV × WH := ((.int .i64 r), [(some (.cells [(.acc 1 0 1 p_b1.length true), (.int .i64 p_d)] false false)), (some (.cells (F_B p_b1) false true))])

theorem s_disk_Disk_Synced (d : Nat) {p_d : Int} {p_b1 : List UInt8} {r : Int} (h : disk_Disk_Synced p_d p_b1 = some r) : Spec (wcalls atab (d + 1)) 58 [(.ptr (some (0, 0)))] [(some (.cells [(.acc 1 0 1 p_b1.length true), (.int .i64 p_d)] false false)), (some (.cells (F_B p_b1) false true))] (out_disk_Disk_Synced p_d p_b1 r).1 (out_disk_Disk_Synced p_d p_b1 r).2 := by
  have e : ∀ C : ACalls, wBody C (fun _ => none) KK WF58 [(.ptr (some (0, 0)))] [(some (.cells [(.acc 1 0 1 p_b1.length true), (.int .i64 p_d)] false false)), (some (.cells (F_B p_b1) false true))] (.fin (some false) [] none) (out_disk_Disk_Synced p_d p_b1 r).1 (out_disk_Disk_Synced p_d p_b1 r).2 = (1 = 1 ∧ 1 ≤ 7 ∧ lff (out_disk_Disk_Synced p_d p_b1) p_d r) := fun C => by kernel_rfl
  refine spec_of (fun _ _ h => by cases h) rfl atab_58 WF58_ok ((e _).mpr ⟨rfl, by decide, ?_⟩)
  unfold disk_Disk_Synced at h
  exact lff_of h

/- osmosis/osmosislaw4.known -/
def osmosislaw4_known  : Option (Bool) :=
  (disk_New).bind fun (x1 : Int) => (disk_Disk_Append ([[(97 : UInt8), (98 : UInt8)]]) x1).bind fun (x2 : Bool × List UInt8) => (disk_Disk_Sync x1 x2.2).bind fun (x3 : Int × Int) => (disk_Disk_Append_2 ([[(99 : UInt8), (100 : UInt8)]]) x3.2 x2.2).bind fun (x4 : Bool × List UInt8) => (disk_Disk_Crash 1 x3.2 x4.2).bind fun (x5 : Int × Int × List UInt8) => cond (x3.1 == 2) (cond (x5.1 == 1) ((disk_Disk_Bytes x5.2.1 x5.2.2).bind fun (x6 : List UInt8) => cond (x6 == ([97, 98, 99])) ((disk_Disk_Synced x5.2.1 x5.2.2).bind fun (x7 : Int) => some (x7 == 3)) (some false)) (some false)) (some false)
def out_osmosislaw4_known (r : Bool) : AV × WH := ((.bool r), [])

theorem s_osmosislaw4_known (d : Nat)  {r : Bool} (h : osmosislaw4_known = some r) : Spec (wcalls atab (d + 4)) 53 [] [] (out_osmosislaw4_known r).1 (out_osmosislaw4_known r).2 := by
  obtain ⟨x1, hx1⟩ := wx (disk_New)
  obtain ⟨x2, hx2⟩ := wx (disk_Disk_Append ([[(97 : UInt8), (98 : UInt8)]]) x1)
  obtain ⟨x3, hx3⟩ := wx (disk_Disk_Sync x1 x2.2)
  obtain ⟨x4, hx4⟩ := wx (disk_Disk_Append_2 ([[(99 : UInt8), (100 : UInt8)]]) x3.2 x2.2)
  obtain ⟨x5, hx5⟩ := wx (disk_Disk_Crash 1 x3.2 x4.2)
  obtain ⟨x6, hx6⟩ := wx (disk_Disk_Bytes x5.2.1 x5.2.2)
  obtain ⟨x7, hx7⟩ := wx (disk_Disk_Synced x5.2.1 x5.2.2)
  have e : ∀ C : ACalls, wBody C (fun _ => none) KK WF53 [] [] (.call [] (some false) [] (.ptr (some (0, 0))) [(some (.cells [(.slice none 1 0 0 true), (.int .i64 x1)] false false))] (.call [] none [] (.bool x2.1) [(some (.cells [(.acc 1 0 1 x2.2.length true), (.int .i64 x1)] false false)), (some (.cells (F_B x2.2) false true))] (.call [] none [] (.int .i64 x3.1) [(some (.cells [(.acc 1 0 1 x2.2.length true), (.int .i64 x3.2)] false false)), (some (.cells (F_B x2.2) false true))] (.call [] none [] (.bool x4.1) [(some (.cells [(.acc 2 0 1 x4.2.length true), (.int .i64 x3.2)] false false)), none, (some (.cells (F_B x4.2) false true))] (.call [] none [] (.int .i64 x5.1) [(some (.cells [(.acc 2 0 1 x5.2.2.length true), (.int .i64 x5.2.1)] false false)), none, (some (.cells (F_B x5.2.2) false true))] (.br 23 (.br 27 (.call [] none [] (l_B x6) [(some (.cells [(.acc 1 0 1 x5.2.2.length true), (.int .i64 x5.2.1)] false false)), (some (.cells (F_B x5.2.2) false true))] (.v 30 (.str x6) (.br 33 (.call [] none [] (.int .i64 x7) [(some (.cells [(.acc 1 0 1 x5.2.2.length true), (.int .i64 x5.2.1)] false false)), (some (.cells (F_B x5.2.2) false true))] (.fin (some false) [] none)) (.fin (some false) [] none)))) (.fin (some false) [] none)) (.fin (some false) [] none))))))) (out_osmosislaw4_known r).1 (out_osmosislaw4_known r).2 = (0 = 0 ∧ 0 ≤ 38 ∧ (Spec C 52 [] [] (.ptr (some (0, 0))) [(some (.cells [(.slice none 1 0 0 true), (.int .i64 x1)] false false))] ∧ (0 ≤ 1 ∧ (Spec C 55 [(.ptr (some (0, 0))), (l_LB ([[(97 : UInt8), (98 : UInt8)]]))] [(some (.cells [(.slice none 1 0 0 true), (.int .i64 x1)] false false))] (.bool x2.1) [(some (.cells [(.acc 1 0 1 x2.2.length true), (.int .i64 x1)] false false)), (some (.cells (F_B x2.2) false true))] ∧ (1 ≤ 2 ∧ (Spec C 56 [(.ptr (some (0, 0)))] [(some (.cells [(.acc 1 0 1 x2.2.length true), (.int .i64 x1)] false false)), (some (.cells (F_B x2.2) false true))] (.int .i64 x3.1) [(some (.cells [(.acc 1 0 1 x2.2.length true), (.int .i64 x3.2)] false false)), (some (.cells (F_B x2.2) false true))] ∧ (2 ≤ 2 ∧ (Spec C 55 [(.ptr (some (0, 0))), (l_LB ([[(99 : UInt8), (100 : UInt8)]]))] [(some (.cells [(.acc 1 0 1 x2.2.length true), (.int .i64 x3.2)] false false)), (some (.cells (F_B x2.2) false true))] (.bool x4.1) [(some (.cells [(.acc 2 0 1 x4.2.length true), (.int .i64 x3.2)] false false)), none, (some (.cells (F_B x4.2) false true))] ∧ (2 ≤ 3 ∧ (Spec C 59 [(.ptr (some (0, 0))), (.int .i64 1)] [(some (.cells [(.acc 1 0 1 x4.2.length true), (.int .i64 x3.2)] false false)), (some (.cells (F_B x4.2) false true))] (.int .i64 x5.1) [(some (.cells [(.acc 2 0 1 x5.2.2.length true), (.int .i64 x5.2.1)] false false)), none, (some (.cells (F_B x5.2.2) false true))] ∧ (2 ≤ 3 ∧ (((x3.1 == 2) = true → (((x5.1 == 1) = true → (Spec C 60 [(.ptr (some (0, 0)))] [(some (.cells [(.acc 1 0 1 x5.2.2.length true), (.int .i64 x5.2.1)] false false)), (some (.cells (F_B x5.2.2) false true))] (l_B x6) [(some (.cells [(.acc 1 0 1 x5.2.2.length true), (.int .i64 x5.2.1)] false false)), (some (.cells (F_B x5.2.2) false true))] ∧ (2 ≤ 2 ∧ ((toBytes (F_B x6)).map AV.str = some (.str x6) ∧ (((x6 == ([97, 98, 99])) = true → (Spec C 58 [(.ptr (some (0, 0)))] [(some (.cells [(.acc 1 0 1 x5.2.2.length true), (.int .i64 x5.2.1)] false false)), (some (.cells (F_B x5.2.2) false true))] (.int .i64 x7) [(some (.cells [(.acc 1 0 1 x5.2.2.length true), (.int .i64 x5.2.1)] false false)), (some (.cells (F_B x5.2.2) false true))] ∧ (2 ≤ 2 ∧ lff out_osmosislaw4_known (x7 == 3) r))) ∧ ((x6 == ([97, 98, 99])) = false → lff out_osmosislaw4_known false r)))))) ∧ ((x5.1 == 1) = false → lff out_osmosislaw4_known false r))) ∧ ((x3.1 == 2) = false → lff out_osmosislaw4_known false r))))))))))))) := fun C => by kernel_rfl
  refine spec_of (fun _ _ h => by cases h) rfl atab_53 WF53_ok ((e _).mpr ⟨rfl, by decide, ?_⟩)
  unfold osmosislaw4_known at h
  obtain ⟨q1, h⟩ := bget hx1 h
  refine ⟨s_disk_New (d + 2) q1, ?_⟩
  refine ⟨by decide, ?_⟩
  obtain ⟨q2, h⟩ := bget hx2 h
  refine ⟨s_disk_Disk_Append (d + 0) q2, ?_⟩
  refine ⟨by decide, ?_⟩
  obtain ⟨q3, h⟩ := bget hx3 h
  refine ⟨s_disk_Disk_Sync (d + 2) q3, ?_⟩
  refine ⟨by decide, ?_⟩
  obtain ⟨q4, h⟩ := bget hx4 h
  refine ⟨s_disk_Disk_Append_2 (d + 0) q4, ?_⟩
  refine ⟨by decide, ?_⟩
  obtain ⟨q5, h⟩ := bget hx5 h
  refine ⟨s_disk_Disk_Crash (d + 2) q5, ?_⟩
  refine ⟨by decide, ?_⟩
  refine ⟨fun hb => ?_, fun hb => ?_⟩
  · have h := cond_t hb h
    refine ⟨fun hb => ?_, fun hb => ?_⟩
    · have h := cond_t hb h
      obtain ⟨q6, h⟩ := bget hx6 h
      refine ⟨s_disk_Disk_Bytes (d + 1) q6, ?_⟩
      refine ⟨by decide, ?_⟩
      refine ⟨by rw [show F_B x6 = (x6).map byteC from rfl, toBytes_map]; rfl, ?_⟩
      refine ⟨fun hb => ?_, fun hb => ?_⟩
      · have h := cond_t hb h
        obtain ⟨q7, h⟩ := bget hx7 h
        refine ⟨s_disk_Disk_Synced (d + 2) q7, ?_⟩
        refine ⟨by decide, ?_⟩
        exact lff_of h
      · have h := cond_f hb h
        exact lff_of h
    · have h := cond_f hb h
      exact lff_of h
  · have h := cond_f hb h
    exact lff_of h

/- osmosis/osmosishand.Few -/
def osmosishand_Few (p_b : List UInt8) (n : Int) : Option (List UInt8) :=
  cond (decide ((p_b.length : Int) > n)) ((slI p_b 0 n).bind fun (x1 : List UInt8) => gd (fitsB 1 x1.length) (some x1)) (gd (fitsB 1 p_b.length) (some p_b))
def out_osmosishand_Few (p_b : List UInt8) (n : Int) (r : List UInt8) : AV × WH := ((l_B r), [])

theorem s_osmosishand_Few (d : Nat) {p_b : List UInt8} {n : Int} {r : List UInt8} (h : osmosishand_Few p_b n = some r) : Spec (wcalls atab (d + 1)) 81 [(l_B p_b), (.int .i64 n)] [] (out_osmosishand_Few p_b n r).1 (out_osmosishand_Few p_b n r).2 := by
  obtain ⟨x1, hx1⟩ := wx (slI p_b 0 n)
  have e : ∀ C : ACalls, wBody C (fun _ => none) KK WF81 [(l_B p_b), (.int .i64 n)] [] (.br 8 (.v 11 (l_B x1) (.ap 14 x1.length (F_B x1) (.fin (some false) [] none))) (.ap 14 p_b.length (F_B p_b) (.fin (some false) [] none))) (out_osmosishand_Few p_b n r).1 (out_osmosishand_Few p_b n r).2 = (2 = 2 ∧ 2 ≤ 15 ∧ (((decide ((p_b.length : Int) > n)) = true → (wP (.slice 1 (.c (l_B p_b)) none (some (.c (.int .i64 n))) none) = some (l_B x1) ∧ (0 + x1.length = x1.length ∧ (F_B [] ++ F_B x1 = F_B x1 ∧ (fitsB 1 x1.length = true ∧ lff (out_osmosishand_Few p_b n) x1 r))))) ∧ ((decide ((p_b.length : Int) > n)) = false → (0 + p_b.length = p_b.length ∧ (F_B [] ++ F_B p_b = F_B p_b ∧ (fitsB 1 p_b.length = true ∧ lff (out_osmosishand_Few p_b n) p_b r)))))) := fun C => by kernel_rfl
  refine spec_of (fun _ _ h => by cases h) rfl atab_81 WF81_ok ((e _).mpr ⟨rfl, by decide, ?_⟩)
  unfold osmosishand_Few at h
  refine ⟨fun hb => ?_, fun hb => ?_⟩
  · have h := cond_t hb h
    obtain ⟨q1, h⟩ := bget hx1 h
    refine ⟨wP_sl_h R_B q1, ?_⟩
    obtain ⟨q2, h⟩ := gd_some h
    refine ⟨by simp, ?_⟩
    refine ⟨by first | rfl | simp [F_B], ?_⟩
    refine ⟨q2, ?_⟩
    exact lff_of h
  · have h := cond_f hb h
    obtain ⟨q3, h⟩ := gd_some h
    refine ⟨by simp, ?_⟩
    refine ⟨by first | rfl | simp [F_B], ?_⟩
    refine ⟨q3, ?_⟩
    exact lff_of h

/- osmosis/osmosislaw4.some -/
abbrev in_osmosislaw4_some_J0 (s11 : Int × List (List UInt8)) (l : List (List UInt8)) : Fast × WH := ([(0, (l_LB l)), (3, (.acc 0 0 1 s11.2.length true)), (4, (.int .i64 s11.1))], [(some (.cells (F_LB s11.2) false true))])
def fin_osmosislaw4_some_J0 (s11 : Int × List (List UInt8)) (l : List (List UInt8)) : Unit ⊕ Unit → Ex × Fast × WH := fun
  | .inl e => (.normal, [(0, (l_LB l)), (3, (.acc 0 0 1 s11.2.length true)), (4, (.int .i64 s11.1))], [(some (.cells (F_LB s11.2) false true))])
  | .inr e => ((.exit 0), [(3, (.acc 0 0 1 s11.2.length true))], [(some (.cells (F_LB s11.2) false true))])
def osmosislaw4_some_J0 (s11 : Int × List (List UInt8)) (l : List (List UInt8)) : Option (Unit ⊕ Unit) :=
  cond (decide (s11.1 < (l.length : Int))) (cond (decide (s11.1 < 6)) (some (.inl ())) (some (.inr ()))) (some (.inr ()))
theorem s_osmosislaw4_some_J0 (d : Nat) {s11 : Int × List (List UInt8)} {l : List (List UInt8)} {r : Unit ⊕ Unit} (h : osmosislaw4_some_J0 s11 l = some r) : RunX (bexec (wcalls atab (d + 0)) KK 24 WJ54_bbabkla) 0 (in_osmosislaw4_some_J0 s11 l) (fin_osmosislaw4_some_J0 s11 l r) := by
  have e : ∀ C : ACalls, wCode C (fun _ => none) KK 24 0 WJ54_bbabkla (in_osmosislaw4_some_J0 s11 l).1 (in_osmosislaw4_some_J0 s11 l).2 (.br 9 (.br 12 (.en [0, 3, 4] [none, none, none] [] []) (.en [3] [none] [] [])) (.en [3] [none] [] [])) (fin_osmosislaw4_some_J0 s11 l r) = (((decide (s11.1 < (l.length : Int))) = true → (((decide (s11.1 < 6)) = true → lfe (fin_osmosislaw4_some_J0 s11 l) (.inl ()) r) ∧ ((decide (s11.1 < 6)) = false → lfe (fin_osmosislaw4_some_J0 s11 l) (.inr ()) r))) ∧ ((decide (s11.1 < (l.length : Int))) = false → lfe (fin_osmosislaw4_some_J0 s11 l) (.inr ()) r)) := fun C => by kernel_rfl
  refine runS_of (fun _ _ h => by cases h) WJ54_bbabkla_ok (Nat.le_of_ble_eq_true rfl) ((e _).mpr ?_)
  unfold osmosislaw4_some_J0 at h
  refine ⟨fun hb => ?_, fun hb => ?_⟩
  · have h := cond_t hb h
    refine ⟨fun hb => ?_, fun hb => ?_⟩
    · have h := cond_t hb h
      exact lfe_of h
    · have h := cond_f hb h
      exact lfe_of h
  · have h := cond_f hb h
    exact lfe_of h

def st_osmosislaw4_some_L1 (l : List (List UInt8)) (s11 : Int × List (List UInt8)) : List AV × WH := ([(l_LB l), (.acc 0 0 1 s11.2.length true), (.int .i64 s11.1)], [(some (.cells (F_LB s11.2) false true))])
def fin_osmosislaw4_some_L1 (l : List (List UInt8)) : (List (List UInt8)) → Ex × Fast × WH := fun e => ((.exit 0), [(3, (.acc 0 0 1 e.length true))], [(some (.cells (F_LB e) false true))])
abbrev rx_osmosislaw4_some_L1 (l : List (List UInt8)) := roundX [0, 3, 4] (st_osmosislaw4_some_L1 l) (fin_osmosislaw4_some_L1 l)
def osmosislaw4_some_L1_s (l : List (List UInt8)) (s11 : Int × List (List UInt8)) : Option ((Int × List (List UInt8)) ⊕ ((List (List UInt8)))) :=
  (osmosislaw4_some_J0 s11 l).bind fun (x12 : Unit ⊕ Unit) => cond (isL x12) ((getI l s11.1).bind fun (x14 : List UInt8) => (osmosishand_Few x14 60).bind fun (x15 : List UInt8) => gd (fitsB 24 (s11.2 ++ [x15]).length) (some (.inl ((IntKind.i64.wrap (s11.1 + 1)), (s11.2 ++ [x15]))))) (some (.inr s11.2))
def osmosislaw4_some_L1 (l : List (List UInt8)) (s11 : Int × List (List UInt8)) : Option ((List (List UInt8))) := loopX (osmosislaw4_some_L1_s l) KK s11
theorem b_osmosislaw4_some_L1 (d : Nat) {l : List (List UInt8)} {s11 : Int × List (List UInt8)} {r : (Int × List (List UInt8)) ⊕ ((List (List UInt8)))} (h : osmosislaw4_some_L1_s l s11 = some r) : RunX (bexec (wcalls atab (d + 1)) KK 24 WB54_0) 0 (inL [0, 3, 4] (st_osmosislaw4_some_L1 l s11)) (rx_osmosislaw4_some_L1 l r) := by
  obtain ⟨x12, hx12⟩ := wx (osmosislaw4_some_J0 s11 l)
  obtain ⟨x14, hx14⟩ := wx (getI l s11.1)
  obtain ⟨x15, hx15⟩ := wx (osmosishand_Few x14 60)
  have e : ∀ C : ACalls, wCode C (fun _ => none) KK 24 0 WB54_0 (inL [0, 3, 4] (st_osmosislaw4_some_L1 l s11)).1 (inL [0, 3, 4] (st_osmosislaw4_some_L1 l s11)).2 (.ite (isL x12) (.jn [0, 3, 4] [none, none, none] [] [] .normal [(0, (l_LB l)), (3, (.acc 0 0 1 s11.2.length true)), (4, (.int .i64 s11.1))] [(some (.cells (F_LB s11.2) false true))] (.v 18 (.elem ([(l_B x14)] ++ F_LB (l.drop (s11.1.toNat + 1)))) (.call [] (some false) [] (l_B x15) [] (.ap 22 (s11.2 ++ [x15]).length (F_LB (s11.2 ++ [x15])) (.en [0, 3, 4] [none, none, none] [] []))))) (.jn [0, 3, 4] [none, none, none] [] [] (.exit 0) [(3, (.acc 0 0 1 s11.2.length true))] [(some (.cells (F_LB s11.2) false true))] (.en [3] [none] [] []))) (rx_osmosislaw4_some_L1 l r) = (((isL x12) = true → (RunS (bexec C KK 24 WJ54_bbabkla) 0 [(0, (l_LB l)), (3, (.acc 0 0 1 s11.2.length true)), (4, (.int .i64 s11.1))] [(some (.cells (F_LB s11.2) false true))] .normal [(0, (l_LB l)), (3, (.acc 0 0 1 s11.2.length true)), (4, (.int .i64 s11.1))] [(some (.cells (F_LB s11.2) false true))] ∧ (wP (.idxSlice 1 (.c (l_LB l)) (.c (.int .i64 s11.1))) = some (.elem ([(l_B x14)] ++ F_LB (l.drop (s11.1.toNat + 1)))) ∧ (Spec C 81 [(l_B x14), (.int .i64 60)] [] (l_B x15) [] ∧ (0 ≤ 0 ∧ (s11.2.length + 1 = (s11.2 ++ [x15]).length ∧ (F_LB s11.2 ++ F_LB [x15] = F_LB (s11.2 ++ [x15]) ∧ (fitsB 24 (s11.2 ++ [x15]).length = true ∧ lfe (rx_osmosislaw4_some_L1 l) (.inl ((IntKind.i64.wrap (s11.1 + 1)), (s11.2 ++ [x15]))) r)))))))) ∧ ((isL x12) = false → (RunS (bexec C KK 24 WJ54_bbabkla) 0 [(0, (l_LB l)), (3, (.acc 0 0 1 s11.2.length true)), (4, (.int .i64 s11.1))] [(some (.cells (F_LB s11.2) false true))] (.exit 0) [(3, (.acc 0 0 1 s11.2.length true))] [(some (.cells (F_LB s11.2) false true))] ∧ lfe (rx_osmosislaw4_some_L1 l) (.inr s11.2) r))) := fun C => by kernel_rfl
  refine runS_of (fun _ _ h => by cases h) WB54_0_ok (Nat.le_of_ble_eq_true rfl) ((e _).mpr ?_)
  unfold osmosislaw4_some_L1_s at h
  obtain ⟨q12, h⟩ := bget hx12 h
  refine ⟨fun hb13 => ?_, fun hb13 => ?_⟩
  · have h := cond_t hb13 h
    refine ⟨by have h := s_osmosislaw4_some_J0 (d + 1) q12; rw [isL_t hb13] at h; exact h, ?_⟩
    obtain ⟨q14, h⟩ := bget hx14 h
    refine ⟨wP_idx R_LB q14, ?_⟩
    obtain ⟨q15, h⟩ := bget hx15 h
    refine ⟨s_osmosishand_Few (d + 0) q15, ?_⟩
    refine ⟨by decide, ?_⟩
    obtain ⟨q16, h⟩ := gd_some h
    refine ⟨by simp, ?_⟩
    refine ⟨(Row.app R_LB _ _).symm, ?_⟩
    refine ⟨q16, ?_⟩
    exact lfe_of h
  · have h := cond_f hb13 h
    refine ⟨by have h := s_osmosislaw4_some_J0 (d + 1) q12; rw [isL_f hb13] at h; exact h, ?_⟩
    exact lfe_of h
theorem s_osmosislaw4_some_L1 (d : Nat) {l : List (List UInt8)} {s11 : Int × List (List UInt8)} {r : (List (List UInt8))} (h : osmosislaw4_some_L1 l s11 = some r) : RunX (bloop (bexec (wcalls atab (d + 1)) KK 24 WB54_0) [0, 3, 4] KK) 0 (inL [0, 3, 4] (st_osmosislaw4_some_L1 l s11)) (fin_osmosislaw4_some_L1 l r) :=
  loop_of (st := st_osmosislaw4_some_L1 l) (fin := fin_osmosislaw4_some_L1 l) (step := osmosislaw4_some_L1_s l) (fun e => by (intro h; cases h)) (fun s x h => b_osmosislaw4_some_L1 d h) KK s11 r h

def osmosislaw4_some (l : List (List UInt8)) : Option (List (List UInt8)) :=
  (osmosislaw4_some_L1 l (0, [])).bind fun (x17 : (List (List UInt8))) => some x17
def out_osmosislaw4_some (l : List (List UInt8)) (r : List (List UInt8)) : AV × WH := ((l_LB r), [])

theorem s_osmosislaw4_some (d : Nat) {l : List (List UInt8)} {r : List (List UInt8)} (h : osmosislaw4_some l = some r) : Spec (wcalls atab (d + 2)) 54 [(l_LB l)] [] (out_osmosislaw4_some l r).1 (out_osmosislaw4_some l r).2 := by
  obtain ⟨x17, hx17⟩ := wx (osmosislaw4_some_L1 l (0, []))
  have e : ∀ C : ACalls, wBody C (fun _ => none) KK WF54 [(l_LB l)] [] (.lp [none, (some true), none] [] [] (.exit 0) [(3, (.acc 0 0 1 x17.length true))] [(some (.cells (F_LB x17) false true))] (.fin (some false) [] none)) (out_osmosislaw4_some l r).1 (out_osmosislaw4_some l r).2 = (1 = 1 ∧ 1 ≤ 24 ∧ (RunS (bloop (bexec C KK 24 WB54_0) [0, 3, 4] KK) 0 [(0, (l_LB l)), (3, (.acc 0 0 1 0 true)), (4, (.int .i64 0))] [(some (.cells (F_LB []) false true))] (.exit 0) [(3, (.acc 0 0 1 x17.length true))] [(some (.cells (F_LB x17) false true))] ∧ lff (out_osmosislaw4_some l) x17 r)) := fun C => by kernel_rfl
  refine spec_of (fun _ _ h => by cases h) rfl atab_54 WF54_ok ((e _).mpr ⟨rfl, by decide, ?_⟩)
  unfold osmosislaw4_some at h
  obtain ⟨q17, h⟩ := bget hx17 h
  refine ⟨s_osmosislaw4_some_L1 (d + 0) q17, ?_⟩
  exact lff_of h

/- (*osmosis/disk.Disk).Size -/
def disk_Disk_Size (p_d : Int) (p_b1 : List UInt8) : Option (Int) :=
  some (p_b1.length : Int)
def out_disk_Disk_Size (p_d : Int) (p_b1 : List UInt8) (r : Int) : AV × WH := ((.int .i64 r), [(some (.cells [(.acc 1 0 1 p_b1.length true), (.int .i64 p_d)] false false)), (some (.cells (F_B p_b1) false true))])

theorem s_disk_Disk_Size (d : Nat) {p_d : Int} {p_b1 : List UInt8} {r : Int} (h : disk_Disk_Size p_d p_b1 = some r) : Spec (wcalls atab (d + 1)) 57 [(.ptr (some (0, 0)))] [(some (.cells [(.acc 1 0 1 p_b1.length true), (.int .i64 p_d)] false false)), (some (.cells (F_B p_b1) false true))] (out_disk_Disk_Size p_d p_b1 r).1 (out_disk_Disk_Size p_d p_b1 r).2 := by
  have e : ∀ C : ACalls, wBody C (fun _ => none) KK WF57 [(.ptr (some (0, 0)))] [(some (.cells [(.acc 1 0 1 p_b1.length true), (.int .i64 p_d)] false false)), (some (.cells (F_B p_b1) false true))] (.fin (some false) [] none) (out_disk_Disk_Size p_d p_b1 r).1 (out_disk_Disk_Size p_d p_b1 r).2 = (1 = 1 ∧ 1 ≤ 8 ∧ lff (out_disk_Disk_Size p_d p_b1) (p_b1.length : Int) r) := fun C => by kernel_rfl
  refine spec_of (fun _ _ h => by cases h) rfl atab_57 WF57_ok ((e _).mpr ⟨rfl, by decide, ?_⟩)
  unfold disk_Disk_Size at h
  exact lff_of h

/- osmosis/osmosishand.Pick -/
def osmosishand_Pick (n : Int) (m : Int) : Option (Int) :=
  (remI .i64 n m).bind fun (x1 : Int) => cond (decide (x1 < 0)) (some (IntKind.i64.wrap (x1 + m))) (some x1)
def out_osmosishand_Pick (n : Int) (m : Int) (r : Int) : AV × WH := ((.int .i64 r), [])

theorem s_osmosishand_Pick (d : Nat) {n : Int} {m : Int} {r : Int} (h : osmosishand_Pick n m = some r) : Spec (wcalls atab (d + 1)) 26 [(.int .i64 n), (.int .i64 m)] [] (out_osmosishand_Pick n m r).1 (out_osmosishand_Pick n m r).2 := by
  obtain ⟨x1, hx1⟩ := wx (remI .i64 n m)
  have e : ∀ C : ACalls, wBody C (fun _ => none) KK WF26 [(.int .i64 n), (.int .i64 m)] [] (.v 7 (.int .i64 x1) (.br 9 (.fin (some false) [] none) (.fin (some false) [] none))) (out_osmosishand_Pick n m r).1 (out_osmosishand_Pick n m r).2 = (2 = 2 ∧ 2 ≤ 14 ∧ (aInts .rem .i64 n m = some (.int .i64 x1) ∧ (((decide (x1 < 0)) = true → lff (out_osmosishand_Pick n m) (IntKind.i64.wrap (x1 + m)) r) ∧ ((decide (x1 < 0)) = false → lff (out_osmosishand_Pick n m) x1 r)))) := fun C => by kernel_rfl
  refine spec_of (fun _ _ h => by cases h) rfl atab_26 WF26_ok ((e _).mpr ⟨rfl, by decide, ?_⟩)
  unfold osmosishand_Pick at h
  obtain ⟨q1, h⟩ := bget hx1 h
  refine ⟨wP_rem q1, ?_⟩
  refine ⟨fun hb => ?_, fun hb => ?_⟩
  · have h := cond_t hb h
    exact lff_of h
  · have h := cond_f hb h
    exact lff_of h

/- (*osmosis/disk.Disk).Swap -/
def disk_Disk_Swap (p_b : List UInt8) (p_d : Int) (p_b1 : List UInt8) : Option (Bool × Int × List UInt8) :=
  cond (decide ((p_b.length : Int) > 65536)) (some (false, p_d, p_b1)) (gd (fitsB 1 p_b.length) (some (true, (p_b.length : Int), p_b)))
def out_disk_Disk_Swap (p_b : List UInt8) (p_d : Int) (p_b1 : List UInt8) (r : Bool × Int × List UInt8) : AV × WH := ((.bool r.1), [(some (.cells [(.acc 2 0 1 r.2.2.length true), (.int .i64 r.2.1)] false false)), none, (some (.cells (F_B r.2.2) false true))])

theorem s_disk_Disk_Swap (d : Nat) {p_b : List UInt8} {p_d : Int} {p_b1 : List UInt8} {r : Bool × Int × List UInt8} (h : disk_Disk_Swap p_b p_d p_b1 = some r) : Spec (wcalls atab (d + 2)) 62 [(.ptr (some (0, 0))), (l_B p_b)] [(some (.cells [(.acc 1 0 1 p_b1.length true), (.int .i64 p_d)] false false)), (some (.cells (F_B p_b1) false true))] (out_disk_Disk_Swap p_b p_d p_b1 r).1 (out_disk_Disk_Swap p_b p_d p_b1 r).2 := by
  have e : ∀ C : ACalls, wBody C wB KK WF62 [(.ptr (some (0, 0))), (l_B p_b)] [(some (.cells [(.acc 1 0 1 p_b1.length true), (.int .i64 p_d)] false false)), (some (.cells (F_B p_b1) false true))] (.br 7 (.fin (some false) [] (some true)) (.st none (.st none (.kl [1] (.fin (some false) [] (some true)))))) (out_disk_Disk_Swap p_b p_d p_b1 r).1 (out_disk_Disk_Swap p_b p_d p_b1 r).2 = (2 = 2 ∧ 2 ≤ 18 ∧ (((decide ((p_b.length : Int) > 65536)) = true → lff (out_disk_Disk_Swap p_b p_d p_b1) (false, p_d, p_b1) r) ∧ ((decide ((p_b.length : Int) > 65536)) = false → (fitsB 1 p_b.length = true ∧ lff (out_disk_Disk_Swap p_b p_d p_b1) (true, (p_b.length : Int), p_b) r)))) := fun C => by kernel_rfl
  refine spec_of (wB_ok _) rfl atab_62 WF62_ok ((e _).mpr ⟨rfl, by decide, ?_⟩)
  unfold disk_Disk_Swap at h
  refine ⟨fun hb => ?_, fun hb => ?_⟩
  · have h := cond_t hb h
    exact lff_of h
  · have h := cond_f hb h
    obtain ⟨q1, h⟩ := gd_some h
    refine ⟨q1, ?_⟩
    exact lff_of h

/- osmosis/osmosisref1.Within -/
def osmosisref1_Within (n : Int) (low : Int) (high : Int) : Option (Int) :=
  some (if (if n < high then n else high) > low then (if n < high then n else high) else low)
def out_osmosisref1_Within (n : Int) (low : Int) (high : Int) (r : Int) : AV × WH := ((.int .i64 r), [])

theorem s_osmosisref1_Within (d : Nat) {n : Int} {low : Int} {high : Int} {r : Int} (h : osmosisref1_Within n low high = some r) : Spec (wcalls atab (d + 1)) 83 [(.int .i64 n), (.int .i64 low), (.int .i64 high)] [] (out_osmosisref1_Within n low high r).1 (out_osmosisref1_Within n low high r).2 := by
  have e : ∀ C : ACalls, wBody C (fun _ => none) KK WF83 [(.int .i64 n), (.int .i64 low), (.int .i64 high)] [] (.fin (some false) [] none) (out_osmosisref1_Within n low high r).1 (out_osmosisref1_Within n low high r).2 = (3 = 3 ∧ 3 ≤ 12 ∧ lff (out_osmosisref1_Within n low high) (if (if n < high then n else high) > low then (if n < high then n else high) else low) r) := fun C => by kernel_rfl
  refine spec_of (fun _ _ h => by cases h) rfl atab_83 WF83_ok ((e _).mpr ⟨rfl, by decide, ?_⟩)
  unfold osmosisref1_Within at h
  exact lff_of h

/- (*osmosis/osmosisref1.Disk).Crash -/
def osmosisref1_Disk_Crash_2 (keep : Int) (p_d : Int) (p_b1 : List UInt8) : Option (Int × Int × List UInt8) :=
  (osmosisref1_Within keep 0 (IntKind.i64.wrap ((p_b1.length : Int) - p_d))).bind fun (x1 : Int) => (slI p_b1 0 (IntKind.i64.wrap (p_d + x1))).bind fun (x2 : List UInt8) => gd (fitsB 1 x2.length) (some (x1, (x2.length : Int), x2))
def out_osmosisref1_Disk_Crash_2 (keep : Int) (p_d : Int) (p_b1 : List UInt8) (r : Int × Int × List UInt8) : AV × WH := ((.int .i64 r.1), [(some (.cells [(.acc 2 0 1 r.2.2.length true), (.int .i64 r.2.1)] false false)), (some (.cells (F_B p_b1) false true)), (some (.cells (F_B r.2.2) false true))])

theorem s_osmosisref1_Disk_Crash_2 (d : Nat) {keep : Int} {p_d : Int} {p_b1 : List UInt8} {r : Int × Int × List UInt8} (h : osmosisref1_Disk_Crash_2 keep p_d p_b1 = some r) : Spec (wcalls atab (d + 2)) 64 [(.ptr (some (0, 0))), (.int .i64 keep)] [(some (.cells [(.acc 1 0 1 p_b1.length true), (.int .i64 p_d)] false false)), (some (.cells (F_B p_b1) false true))] (out_osmosisref1_Disk_Crash_2 keep p_d p_b1 r).1 (out_osmosisref1_Disk_Crash_2 keep p_d p_b1 r).2 := by
  obtain ⟨x1, hx1⟩ := wx (osmosisref1_Within keep 0 (IntKind.i64.wrap ((p_b1.length : Int) - p_d)))
  obtain ⟨x2, hx2⟩ := wx (slI p_b1 0 (IntKind.i64.wrap (p_d + x1)))
  have e : ∀ C : ACalls, wBody C (fun _ => none) KK WF64 [(.ptr (some (0, 0))), (.int .i64 keep)] [(some (.cells [(.acc 1 0 1 p_b1.length true), (.int .i64 p_d)] false false)), (some (.cells (F_B p_b1) false true))] (.cb [] [] (.int .i64 x1) (.v 30 (.acc 1 0 1 x2.length false) (.ap 31 x2.length (F_B x2) (.st none (.st none (.fin (some false) [] none)))))) (out_osmosisref1_Disk_Crash_2 keep p_d p_b1 r).1 (out_osmosisref1_Disk_Crash_2 keep p_d p_b1 r).2 = (2 = 2 ∧ 2 ≤ 43 ∧ (Spec C 83 [(.int .i64 keep), (.int .i64 0), (.int .i64 (IntKind.i64.wrap ((p_b1.length : Int) - p_d)))] [] (.int .i64 x1) [] ∧ (wP (.slice 1 (.c (.acc 1 0 1 p_b1.length true)) none (some (.c (.int .i64 (IntKind.i64.wrap (p_d + x1))))) none) = some (.acc 1 0 1 x2.length false) ∧ (0 + x2.length = x2.length ∧ (F_B [] ++ ((F_B p_b1).drop (0)).take (x2.length * 1) = F_B x2 ∧ (fitsB 1 x2.length = true ∧ lff (out_osmosisref1_Disk_Crash_2 keep p_d p_b1) (x1, (x2.length : Int), x2) r)))))) := fun C => by kernel_rfl
  refine spec_of (fun _ _ h => by cases h) rfl atab_64 WF64_ok ((e _).mpr ⟨rfl, by decide, ?_⟩)
  unfold osmosisref1_Disk_Crash_2 at h
  obtain ⟨q1, h⟩ := bget hx1 h
  refine ⟨s_osmosisref1_Within (d + 0) q1, ?_⟩
  obtain ⟨q2, h⟩ := bget hx2 h
  refine ⟨wP_slA_h R_B q2, ?_⟩
  try rw [take_row R_B q2]
  try rw [part_row0 R_B q2]
  obtain ⟨q3, h⟩ := gd_some h
  refine ⟨by simp, ?_⟩
  refine ⟨by first | rfl | simp [F_B], ?_⟩
  refine ⟨q3, ?_⟩
  exact lff_of h

/- (*osmosis/osmosisref1.Disk).Sync -/
def osmosisref1_Disk_Sync_2 (p_d : Int) (p_b1 : List UInt8) : Option (Int × Int) :=
  some ((IntKind.i64.wrap ((p_b1.length : Int) - p_d)), (p_b1.length : Int))
def out_osmosisref1_Disk_Sync_2 (p_d : Int) (p_b1 : List UInt8) (r : Int × Int) : AV × WH := ((.int .i64 r.1), [(some (.cells [(.acc 1 0 1 p_b1.length true), (.int .i64 r.2)] false false)), (some (.cells (F_B p_b1) false true))])

theorem s_osmosisref1_Disk_Sync_2 (d : Nat) {p_d : Int} {p_b1 : List UInt8} {r : Int × Int} (h : osmosisref1_Disk_Sync_2 p_d p_b1 = some r) : Spec (wcalls atab (d + 1)) 63 [(.ptr (some (0, 0)))] [(some (.cells [(.acc 1 0 1 p_b1.length true), (.int .i64 p_d)] false false)), (some (.cells (F_B p_b1) false true))] (out_osmosisref1_Disk_Sync_2 p_d p_b1 r).1 (out_osmosisref1_Disk_Sync_2 p_d p_b1 r).2 := by
  have e : ∀ C : ACalls, wBody C (fun _ => none) KK WF63 [(.ptr (some (0, 0)))] [(some (.cells [(.acc 1 0 1 p_b1.length true), (.int .i64 p_d)] false false)), (some (.cells (F_B p_b1) false true))] (.st none (.fin (some false) [] none)) (out_osmosisref1_Disk_Sync_2 p_d p_b1 r).1 (out_osmosisref1_Disk_Sync_2 p_d p_b1 r).2 = (1 = 1 ∧ 1 ≤ 23 ∧ lff (out_osmosisref1_Disk_Sync_2 p_d p_b1) ((IntKind.i64.wrap ((p_b1.length : Int) - p_d)), (p_b1.length : Int)) r) := fun C => by kernel_rfl
  refine spec_of (fun _ _ h => by cases h) rfl atab_63 WF63_ok ((e _).mpr ⟨rfl, by decide, ?_⟩)
  unfold osmosisref1_Disk_Sync_2 at h
  exact lff_of h

/- (*osmosis/osmosisref1.Disk).Swap -/
def osmosisref1_Disk_Swap_2 (p_b : List UInt8) (p_d : Int) (p_b1 : List UInt8) : Option (Bool × Int × List UInt8) :=
  cond (decide ((p_b.length : Int) > 65536)) (some (false, p_d, p_b1)) (gd (fitsB 1 p_b.length) (some (true, (p_b.length : Int), p_b)))
def out_osmosisref1_Disk_Swap_2 (p_b : List UInt8) (p_d : Int) (p_b1 : List UInt8) (r : Bool × Int × List UInt8) : AV × WH := ((.bool r.1), [(some (.cells [(.acc 2 0 1 r.2.2.length true), (.int .i64 r.2.1)] false false)), none, (some (.cells (F_B r.2.2) false true))])

theorem s_osmosisref1_Disk_Swap_2 (d : Nat) {p_b : List UInt8} {p_d : Int} {p_b1 : List UInt8} {r : Bool × Int × List UInt8} (h : osmosisref1_Disk_Swap_2 p_b p_d p_b1 = some r) : Spec (wcalls atab (d + 1)) 65 [(.ptr (some (0, 0))), (l_B p_b)] [(some (.cells [(.acc 1 0 1 p_b1.length true), (.int .i64 p_d)] false false)), (some (.cells (F_B p_b1) false true))] (out_osmosisref1_Disk_Swap_2 p_b p_d p_b1 r).1 (out_osmosisref1_Disk_Swap_2 p_b p_d p_b1 r).2 := by
  have e : ∀ C : ACalls, wBody C (fun _ => none) KK WF65 [(.ptr (some (0, 0))), (l_B p_b)] [(some (.cells [(.acc 1 0 1 p_b1.length true), (.int .i64 p_d)] false false)), (some (.cells (F_B p_b1) false true))] (.br 7 (.fin (some false) [] (some true)) (.ap 11 p_b.length (F_B p_b) (.st none (.st none (.kl [1] (.fin (some false) [] (some true))))))) (out_osmosisref1_Disk_Swap_2 p_b p_d p_b1 r).1 (out_osmosisref1_Disk_Swap_2 p_b p_d p_b1 r).2 = (2 = 2 ∧ 2 ≤ 19 ∧ (((decide ((p_b.length : Int) > 65536)) = true → lff (out_osmosisref1_Disk_Swap_2 p_b p_d p_b1) (false, p_d, p_b1) r) ∧ ((decide ((p_b.length : Int) > 65536)) = false → (0 + p_b.length = p_b.length ∧ (F_B [] ++ F_B p_b = F_B p_b ∧ (fitsB 1 p_b.length = true ∧ lff (out_osmosisref1_Disk_Swap_2 p_b p_d p_b1) (true, (p_b.length : Int), p_b) r)))))) := fun C => by kernel_rfl
  refine spec_of (fun _ _ h => by cases h) rfl atab_65 WF65_ok ((e _).mpr ⟨rfl, by decide, ?_⟩)
  unfold osmosisref1_Disk_Swap_2 at h
  refine ⟨fun hb => ?_, fun hb => ?_⟩
  · have h := cond_t hb h
    exact lff_of h
  · have h := cond_f hb h
    obtain ⟨q1, h⟩ := gd_some h
    refine ⟨by simp, ?_⟩
    refine ⟨by first | rfl | simp [F_B], ?_⟩
    refine ⟨q1, ?_⟩
    exact lff_of h

/- (*osmosis/osmosisref1.Disk).Append -/
def st_osmosisref1_Disk_Append_2_L0 (parts : List (List UInt8)) (p_b1 : List UInt8) (p_d : Int) (s2 : Int × Int) : List AV × WH := ([(.ptr (some (0, 0))), (l_LB parts), (.int .i64 s2.1), (.int .i64 s2.2)], [(some (.cells [(.acc 1 0 1 p_b1.length true), (.int .i64 p_d)] false false)), (some (.cells (F_B p_b1) false true))])
def fin_osmosisref1_Disk_Append_2_L0 (parts : List (List UInt8)) (p_b1 : List UInt8) (p_d : Int) : Int → Ex × Fast × WH := fun e => ((.exit 0), [(0, (.ptr (some (0, 0)))), (1, (l_LB parts)), (5, (.int .i64 e))], [(some (.cells [(.acc 1 0 1 p_b1.length true), (.int .i64 p_d)] false false)), (some (.cells (F_B p_b1) false true))])
abbrev rx_osmosisref1_Disk_Append_2_L0 (parts : List (List UInt8)) (p_b1 : List UInt8) (p_d : Int) := roundX [0, 1, 5, 6] (st_osmosisref1_Disk_Append_2_L0 parts p_b1 p_d) (fin_osmosisref1_Disk_Append_2_L0 parts p_b1 p_d)
def osmosisref1_Disk_Append_2_L0_s (parts : List (List UInt8)) (p_b1 : List UInt8) (p_d : Int) (s2 : Int × Int) : Option ((Int × Int) ⊕ (Int)) :=
  cond (decide (s2.2 < (parts.length : Int))) ((getI parts s2.2).bind fun (x3 : List UInt8) => some (.inl ((IntKind.i64.wrap (s2.1 + (x3.length : Int))), (IntKind.i64.wrap (s2.2 + 1))))) (some (.inr s2.1))
def osmosisref1_Disk_Append_2_L0 (parts : List (List UInt8)) (p_b1 : List UInt8) (p_d : Int) (s2 : Int × Int) : Option (Int) := loopX (osmosisref1_Disk_Append_2_L0_s parts p_b1 p_d) KK s2
theorem b_osmosisref1_Disk_Append_2_L0 (d : Nat) {parts : List (List UInt8)} {p_b1 : List UInt8} {p_d : Int} {s2 : Int × Int} {r : (Int × Int) ⊕ (Int)} (h : osmosisref1_Disk_Append_2_L0_s parts p_b1 p_d s2 = some r) : RunX (bexec (wcalls atab (d + 0)) KK 48 WB66_0) 2 (inL [0, 1, 5, 6] (st_osmosisref1_Disk_Append_2_L0 parts p_b1 p_d s2)) (rx_osmosisref1_Disk_Append_2_L0 parts p_b1 p_d r) := by
  obtain ⟨x3, hx3⟩ := wx (getI parts s2.2)
  have e : ∀ C : ACalls, wCode C (fun _ => none) KK 48 2 WB66_0 (inL [0, 1, 5, 6] (st_osmosisref1_Disk_Append_2_L0 parts p_b1 p_d s2)).1 (inL [0, 1, 5, 6] (st_osmosisref1_Disk_Append_2_L0 parts p_b1 p_d s2)).2 (.br 16 (.v 22 (.elem ([(l_B x3)] ++ F_LB (parts.drop (s2.2.toNat + 1)))) (.en [0, 1, 5, 6] [none, none, none, none] [] [])) (.en [0, 1, 5] [none, none, none] [] [])) (rx_osmosisref1_Disk_Append_2_L0 parts p_b1 p_d r) = (((decide (s2.2 < (parts.length : Int))) = true → (wP (.idxSlice 1 (.c (l_LB parts)) (.c (.int .i64 s2.2))) = some (.elem ([(l_B x3)] ++ F_LB (parts.drop (s2.2.toNat + 1)))) ∧ lfe (rx_osmosisref1_Disk_Append_2_L0 parts p_b1 p_d) (.inl ((IntKind.i64.wrap (s2.1 + (x3.length : Int))), (IntKind.i64.wrap (s2.2 + 1)))) r)) ∧ ((decide (s2.2 < (parts.length : Int))) = false → lfe (rx_osmosisref1_Disk_Append_2_L0 parts p_b1 p_d) (.inr s2.1) r)) := fun C => by kernel_rfl
  refine runS_of (fun _ _ h => by cases h) WB66_0_ok (Nat.le_of_ble_eq_true rfl) ((e _).mpr ?_)
  unfold osmosisref1_Disk_Append_2_L0_s at h
  refine ⟨fun hb => ?_, fun hb => ?_⟩
  · have h := cond_t hb h
    obtain ⟨q3, h⟩ := bget hx3 h
    refine ⟨wP_idx R_LB q3, ?_⟩
    exact lfe_of h
  · have h := cond_f hb h
    exact lfe_of h
theorem s_osmosisref1_Disk_Append_2_L0 (d : Nat) {parts : List (List UInt8)} {p_b1 : List UInt8} {p_d : Int} {s2 : Int × Int} {r : Int} (h : osmosisref1_Disk_Append_2_L0 parts p_b1 p_d s2 = some r) : RunX (bloop (bexec (wcalls atab (d + 0)) KK 48 WB66_0) [0, 1, 5, 6] KK) 2 (inL [0, 1, 5, 6] (st_osmosisref1_Disk_Append_2_L0 parts p_b1 p_d s2)) (fin_osmosisref1_Disk_Append_2_L0 parts p_b1 p_d r) :=
  loop_of (st := st_osmosisref1_Disk_Append_2_L0 parts p_b1 p_d) (fin := fin_osmosisref1_Disk_Append_2_L0 parts p_b1 p_d) (step := osmosisref1_Disk_Append_2_L0_s parts p_b1 p_d) (fun e => by (intro h; cases h)) (fun s x h => b_osmosisref1_Disk_Append_2_L0 d h) KK s2 r h

def st_osmosisref1_Disk_Append_2_L1 (parts : List (List UInt8)) (p_d : Int) (s11 : Int × List UInt8) : List AV × WH := ([(.ptr (some (0, 0))), (l_LB parts), (.int .i64 s11.1)], [(some (.cells [(.acc 2 0 1 s11.2.length true), (.int .i64 p_d)] false false)), none, (some (.cells (F_B s11.2) false true))])
def fin_osmosisref1_Disk_Append_2_L1 (parts : List (List UInt8)) (p_d : Int) : (List UInt8) → Ex × Fast × WH := fun e => ((.exit 2), [], [(some (.cells [(.acc 2 0 1 e.length true), (.int .i64 p_d)] false false)), none, (some (.cells (F_B e) false true))])
abbrev rx_osmosisref1_Disk_Append_2_L1 (parts : List (List UInt8)) (p_d : Int) := roundX [0, 1, 7] (st_osmosisref1_Disk_Append_2_L1 parts p_d) (fin_osmosisref1_Disk_Append_2_L1 parts p_d)
def osmosisref1_Disk_Append_2_L1_s (parts : List (List UInt8)) (p_d : Int) (s11 : Int × List UInt8) : Option ((Int × List UInt8) ⊕ ((List UInt8))) :=
  cond (decide (s11.1 < (parts.length : Int))) (gd (fitsB 1 s11.2.length) ((getI parts s11.1).bind fun (x13 : List UInt8) => gd (fitsB 1 (s11.2 ++ x13).length) (some (.inl ((IntKind.i64.wrap (s11.1 + 1)), (s11.2 ++ x13)))))) (some (.inr s11.2))
def osmosisref1_Disk_Append_2_L1 (parts : List (List UInt8)) (p_d : Int) (s11 : Int × List UInt8) : Option ((List UInt8)) := loopX (osmosisref1_Disk_Append_2_L1_s parts p_d) KK s11
theorem b_osmosisref1_Disk_Append_2_L1 (d : Nat) {parts : List (List UInt8)} {p_d : Int} {s11 : Int × List UInt8} {r : (Int × List UInt8) ⊕ ((List UInt8))} (h : osmosisref1_Disk_Append_2_L1_s parts p_d s11 = some r) : RunX (bexec (wcalls atab (d + 0)) KK 48 WB66_1) 2 (inL [0, 1, 7] (st_osmosisref1_Disk_Append_2_L1 parts p_d s11)) (rx_osmosisref1_Disk_Append_2_L1 parts p_d r) := by
  obtain ⟨x13, hx13⟩ := wx (getI parts s11.1)
  have e : ∀ C : ACalls, wCode C (fun _ => none) KK 48 2 WB66_1 (inL [0, 1, 7] (st_osmosisref1_Disk_Append_2_L1 parts p_d s11)).1 (inL [0, 1, 7] (st_osmosisref1_Disk_Append_2_L1 parts p_d s11)).2 (.br 31 (.ap 40 s11.2.length (F_B s11.2) (.v 43 (.elem ([(l_B x13)] ++ F_LB (parts.drop (s11.1.toNat + 1)))) (.ap 45 (s11.2 ++ x13).length (F_B (s11.2 ++ x13)) (.st none (.en [0, 1, 7] [none, none, none] [] []))))) (.en [] [] [] [])) (rx_osmosisref1_Disk_Append_2_L1 parts p_d r) = (((decide (s11.1 < (parts.length : Int))) = true → (0 + s11.2.length = s11.2.length ∧ (F_B [] ++ F_B s11.2 = F_B s11.2 ∧ (fitsB 1 s11.2.length = true ∧ (wP (.idxSlice 1 (.c (l_LB parts)) (.c (.int .i64 s11.1))) = some (.elem ([(l_B x13)] ++ F_LB (parts.drop (s11.1.toNat + 1)))) ∧ (s11.2.length + x13.length = (s11.2 ++ x13).length ∧ (F_B s11.2 ++ F_B x13 = F_B (s11.2 ++ x13) ∧ (fitsB 1 (s11.2 ++ x13).length = true ∧ lfe (rx_osmosisref1_Disk_Append_2_L1 parts p_d) (.inl ((IntKind.i64.wrap (s11.1 + 1)), (s11.2 ++ x13))) r)))))))) ∧ ((decide (s11.1 < (parts.length : Int))) = false → lfe (rx_osmosisref1_Disk_Append_2_L1 parts p_d) (.inr s11.2) r)) := fun C => by kernel_rfl
  refine runS_of (fun _ _ h => by cases h) WB66_1_ok (Nat.le_of_ble_eq_true rfl) ((e _).mpr ?_)
  unfold osmosisref1_Disk_Append_2_L1_s at h
  refine ⟨fun hb => ?_, fun hb => ?_⟩
  · have h := cond_t hb h
    obtain ⟨q12, h⟩ := gd_some h
    refine ⟨by simp, ?_⟩
    refine ⟨by first | rfl | simp [F_B], ?_⟩
    refine ⟨q12, ?_⟩
    obtain ⟨q13, h⟩ := bget hx13 h
    refine ⟨wP_idx R_LB q13, ?_⟩
    obtain ⟨q14, h⟩ := gd_some h
    refine ⟨app_len _ _, ?_⟩
    refine ⟨(Row.app R_B _ _).symm, ?_⟩
    refine ⟨q14, ?_⟩
    exact lfe_of h
  · have h := cond_f hb h
    exact lfe_of h
theorem s_osmosisref1_Disk_Append_2_L1 (d : Nat) {parts : List (List UInt8)} {p_d : Int} {s11 : Int × List UInt8} {r : (List UInt8)} (h : osmosisref1_Disk_Append_2_L1 parts p_d s11 = some r) : RunX (bloop (bexec (wcalls atab (d + 0)) KK 48 WB66_1) [0, 1, 7] KK) 2 (inL [0, 1, 7] (st_osmosisref1_Disk_Append_2_L1 parts p_d s11)) (fin_osmosisref1_Disk_Append_2_L1 parts p_d r) :=
  loop_of (st := st_osmosisref1_Disk_Append_2_L1 parts p_d) (fin := fin_osmosisref1_Disk_Append_2_L1 parts p_d) (step := osmosisref1_Disk_Append_2_L1_s parts p_d) (fun e => by (intro h; cases h)) (fun s x h => b_osmosisref1_Disk_Append_2_L1 d h) KK s11 r h

def osmosisref1_Disk_Append_2 (parts : List (List UInt8)) (p_d : Int) (p_b1 : List UInt8) : Option (Bool × List UInt8) :=
  (osmosisref1_Disk_Append_2_L0 parts p_b1 p_d ((p_b1.length : Int), 0)).bind fun (x4 : Int) => cond (decide (x4 > 65536)) (some (false, p_b1)) ((osmosisref1_Disk_Append_2_L1 parts p_d (0, p_b1)).bind fun (x15 : (List UInt8)) => some (true, x15))
def out_osmosisref1_Disk_Append_2 (parts : List (List UInt8)) (p_d : Int) (p_b1 : List UInt8) (r : Bool × List UInt8) : AV × WH := ((.bool r.1), [(some (.cells [(.acc 2 0 1 r.2.length true), (.int .i64 p_d)] false false)), none, (some (.cells (F_B r.2) false true))])

theorem s_osmosisref1_Disk_Append_2 (d : Nat) {parts : List (List UInt8)} {p_d : Int} {p_b1 : List UInt8} {r : Bool × List UInt8} (h : osmosisref1_Disk_Append_2 parts p_d p_b1 = some r) : Spec (wcalls atab (d + 1)) 66 [(.ptr (some (0, 0))), (l_LB parts)] [(some (.cells [(.acc 1 0 1 p_b1.length true), (.int .i64 p_d)] false false)), (some (.cells (F_B p_b1) false true))] (out_osmosisref1_Disk_Append_2 parts p_d p_b1 r).1 (out_osmosisref1_Disk_Append_2 parts p_d p_b1 r).2 := by
  obtain ⟨x4, hx4⟩ := wx (osmosisref1_Disk_Append_2_L0 parts p_b1 p_d ((p_b1.length : Int), 0))
  obtain ⟨x15, hx15⟩ := wx (osmosisref1_Disk_Append_2_L1 parts p_d (0, p_b1))
  have e : ∀ C : ACalls, wBody C (fun _ => none) KK WF66 [(.ptr (some (0, 0))), (l_LB parts)] [(some (.cells [(.acc 1 0 1 p_b1.length true), (.int .i64 p_d)] false false)), (some (.cells (F_B p_b1) false true))] (.lp [none, none, none, none] [] [] (.exit 0) [(0, (.ptr (some (0, 0)))), (1, (l_LB parts)), (5, (.int .i64 x4))] [(some (.cells [(.acc 1 0 1 p_b1.length true), (.int .i64 p_d)] false false)), (some (.cells (F_B p_b1) false true))] (.br 27 (.fin (some false) [] (some true)) (.lp [none, none, none] [(some true), (some true), (some true)] [] (.exit 2) [] [(some (.cells [(.acc 2 0 1 x15.length true), (.int .i64 p_d)] false false)), none, (some (.cells (F_B x15) false true))] (.fin (some false) [] (some true))))) (out_osmosisref1_Disk_Append_2 parts p_d p_b1 r).1 (out_osmosisref1_Disk_Append_2 parts p_d p_b1 r).2 = (2 = 2 ∧ 2 ≤ 48 ∧ (RunS (bloop (bexec C KK 48 WB66_0) [0, 1, 5, 6] KK) 2 [(0, (.ptr (some (0, 0)))), (1, (l_LB parts)), (5, (.int .i64 (p_b1.length : Int))), (6, (.int .i64 0))] [(some (.cells [(.acc 1 0 1 p_b1.length true), (.int .i64 p_d)] false false)), (some (.cells (F_B p_b1) false true))] (.exit 0) [(0, (.ptr (some (0, 0)))), (1, (l_LB parts)), (5, (.int .i64 x4))] [(some (.cells [(.acc 1 0 1 p_b1.length true), (.int .i64 p_d)] false false)), (some (.cells (F_B p_b1) false true))] ∧ (((decide (x4 > 65536)) = true → lff (out_osmosisref1_Disk_Append_2 parts p_d p_b1) (false, p_b1) r) ∧ ((decide (x4 > 65536)) = false → (RunS (bloop (bexec C KK 48 WB66_1) [0, 1, 7] KK) 2 [(0, (.ptr (some (0, 0)))), (1, (l_LB parts)), (7, (.int .i64 0))] [(some (.cells [(.acc 2 0 1 p_b1.length true), (.int .i64 p_d)] false false)), none, (some (.cells (F_B p_b1) false true))] (.exit 2) [] [(some (.cells [(.acc 2 0 1 x15.length true), (.int .i64 p_d)] false false)), none, (some (.cells (F_B x15) false true))] ∧ lff (out_osmosisref1_Disk_Append_2 parts p_d p_b1) (true, x15) r))))) := fun C => by kernel_rfl
  refine spec_of (fun _ _ h => by cases h) rfl atab_66 WF66_ok ((e _).mpr ⟨rfl, by decide, ?_⟩)
  unfold osmosisref1_Disk_Append_2 at h
  obtain ⟨q4, h⟩ := bget hx4 h
  refine ⟨s_osmosisref1_Disk_Append_2_L0 (d + 0) q4, ?_⟩
  refine ⟨fun hb => ?_, fun hb => ?_⟩
  · have h := cond_t hb h
    exact lff_of h
  · have h := cond_f hb h
    obtain ⟨q15, h⟩ := bget hx15 h
    refine ⟨s_osmosisref1_Disk_Append_2_L1 (d + 0) q15, ?_⟩
    exact lff_of h

end Go.Proofs.Yteibgagdnidojaa
