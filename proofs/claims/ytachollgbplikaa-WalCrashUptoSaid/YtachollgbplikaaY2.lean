/- Functions as Lean functions, part 2. -/
import Derived.Test.YtachollgbplikaaXt
import Derived.Test.YtachollgbplikaaXs
import Derived.Test.YtachollgbplikaaY1
set_option linter.all false
set_option maxRecDepth 100000
namespace Go.Proofs.Ytachollgbplikaa
/- slices.IndexFunc[[][]byte,[]byte] -/
def st_slices_IndexFunc_byte_byte_2_L0 (a0 : List (List UInt8)) (s3 : Int) : List AV × WH := ([(l_LB a0), (.func 125 []), (.int .i64 (a0.length : Int)), (.int .i64 s3)], [])
def fin_slices_IndexFunc_byte_byte_2_L0 (a0 : List (List UInt8)) : Int ⊕ Unit → Ex × Fast × WH := fun
  | .inl e => (.ret, [(4, (.int .i64 e))], [])
  | .inr e => ((.exit 0), [], [])
abbrev rx_slices_IndexFunc_byte_byte_2_L0 (a0 : List (List UInt8)) := roundX [0, 1, 7, 8] (st_slices_IndexFunc_byte_byte_2_L0 a0) (fin_slices_IndexFunc_byte_byte_2_L0 a0)
def slices_IndexFunc_byte_byte_2_L0_s (a0 : List (List UInt8)) (s3 : Int) : Option ((Int) ⊕ (Int ⊕ Unit)) :=
  cond (decide (s3 < (a0.length : Int))) ((getI a0 s3).bind fun (x4 : List UInt8) => (wal_long_1 x4).bind fun (x5 : Bool) => cond x5 (some (.inr (.inl s3))) (some (.inl (IntKind.i64.wrap (s3 + 1))))) (some (.inr (.inr ())))
def slices_IndexFunc_byte_byte_2_L0 (a0 : List (List UInt8)) (s3 : Int) : Option (Int ⊕ Unit) := loopX (slices_IndexFunc_byte_byte_2_L0_s a0) KK s3
theorem b_slices_IndexFunc_byte_byte_2_L0 (d : Nat) {a0 : List (List UInt8)} {s3 : Int} {r : (Int) ⊕ (Int ⊕ Unit)} (h : slices_IndexFunc_byte_byte_2_L0_s a0 s3 = some r) : RunX (bexec (wcalls atab (d + 1)) KK 19 WB135_0) 0 (inL [0, 1, 7, 8] (st_slices_IndexFunc_byte_byte_2_L0 a0 s3)) (rx_slices_IndexFunc_byte_byte_2_L0 a0 r) := by
  obtain ⟨x4, hx4⟩ := wx (getI a0 s3)
  obtain ⟨x5, hx5⟩ := wx (wal_long_1 x4)
  have e : ∀ C : ACalls, wCode C (fun _ => none) KK 19 0 WB135_0 (inL [0, 1, 7, 8] (st_slices_IndexFunc_byte_byte_2_L0 a0 s3)).1 (inL [0, 1, 7, 8] (st_slices_IndexFunc_byte_byte_2_L0 a0 s3)).2 (.br 9 (.v 14 (.elem ([(l_B x4)] ++ F_LB (a0.drop (s3.toNat + 1)))) (.cb [] [] (.bool x5) (.br 16 (.en [4] [none] [] []) (.en [0, 1, 7, 8] [none, none, none, none] [] [])))) (.en [] [] [] [])) (rx_slices_IndexFunc_byte_byte_2_L0 a0 r) = (((decide (s3 < (a0.length : Int))) = true → (wP (.idxSlice 1 (.c (l_LB a0)) (.c (.int .i64 s3))) = some (.elem ([(l_B x4)] ++ F_LB (a0.drop (s3.toNat + 1)))) ∧ (Spec C 125 [(l_B x4)] [] (.bool x5) [] ∧ ((x5 = true → lfe (rx_slices_IndexFunc_byte_byte_2_L0 a0) (.inr (.inl s3)) r) ∧ (x5 = false → lfe (rx_slices_IndexFunc_byte_byte_2_L0 a0) (.inl (IntKind.i64.wrap (s3 + 1))) r))))) ∧ ((decide (s3 < (a0.length : Int))) = false → lfe (rx_slices_IndexFunc_byte_byte_2_L0 a0) (.inr (.inr ())) r)) := fun C => by kernel_rfl
  refine runS_of (fun _ _ h => by cases h) WB135_0_ok (Nat.le_of_ble_eq_true rfl) ((e _).mpr ?_)
  unfold slices_IndexFunc_byte_byte_2_L0_s at h
  refine ⟨fun hb => ?_, fun hb => ?_⟩
  · have h := cond_t hb h
    obtain ⟨q4, h⟩ := bget hx4 h
    refine ⟨wP_idx R_LB q4, ?_⟩
    obtain ⟨q5, h⟩ := bget hx5 h
    refine ⟨s_wal_long_1 (d + 0) q5, ?_⟩
    refine ⟨fun hb => ?_, fun hb => ?_⟩
    · have h := cond_t hb h
      exact lfe_of h
    · have h := cond_f hb h
      exact lfe_of h
  · have h := cond_f hb h
    exact lfe_of h
theorem s_slices_IndexFunc_byte_byte_2_L0 (d : Nat) {a0 : List (List UInt8)} {s3 : Int} {r : Int ⊕ Unit} (h : slices_IndexFunc_byte_byte_2_L0 a0 s3 = some r) : RunX (bloop (bexec (wcalls atab (d + 1)) KK 19 WB135_0) [0, 1, 7, 8] KK) 0 (inL [0, 1, 7, 8] (st_slices_IndexFunc_byte_byte_2_L0 a0 s3)) (fin_slices_IndexFunc_byte_byte_2_L0 a0 r) :=
  loop_of (st := st_slices_IndexFunc_byte_byte_2_L0 a0) (fin := fin_slices_IndexFunc_byte_byte_2_L0 a0) (step := slices_IndexFunc_byte_byte_2_L0_s a0) (fun e => by rcases e with e | e <;> (intro h; cases h)) (fun s x h => b_slices_IndexFunc_byte_byte_2_L0 d h) KK s3 r h

def slices_IndexFunc_byte_byte_2 (a0 : List (List UInt8)) : Option (Int) :=
  (slices_IndexFunc_byte_byte_2_L0 a0 0).bind fun (x6 : Int ⊕ Unit) => cond (isL x6) (some (getL x6)) (some (-1))
def out_slices_IndexFunc_byte_byte_2 (a0 : List (List UInt8)) (r : Int) : AV × WH := ((.int .i64 r), [])

theorem s_slices_IndexFunc_byte_byte_2 (d : Nat) {a0 : List (List UInt8)} {r : Int} (h : slices_IndexFunc_byte_byte_2 a0 = some r) : Spec (wcalls atab (d + 2)) 135 [(l_LB a0), (.func 125 [])] [] (out_slices_IndexFunc_byte_byte_2 a0 r).1 (out_slices_IndexFunc_byte_byte_2 a0 r).2 := by
  obtain ⟨x6, hx6⟩ := wx (slices_IndexFunc_byte_byte_2_L0 a0 0)
  have e : ∀ C : ACalls, wBody C (fun _ => none) KK WF135 [(l_LB a0), (.func 125 [])] [] (.ite (isL x6) (.lp [none, none, none, none] [] [] .ret [(4, (.int .i64 (getL x6)))] [] (.fin (some false) [] none)) (.lp [none, none, none, none] [] [] (.exit 0) [] [] (.fin (some false) [] none))) (out_slices_IndexFunc_byte_byte_2 a0 r).1 (out_slices_IndexFunc_byte_byte_2 a0 r).2 = (2 = 2 ∧ 2 ≤ 19 ∧ (((isL x6) = true → (RunS (bloop (bexec C KK 19 WB135_0) [0, 1, 7, 8] KK) 0 [(0, (l_LB a0)), (1, (.func 125 [])), (7, (.int .i64 (a0.length : Int))), (8, (.int .i64 0))] [] .ret [(4, (.int .i64 (getL x6)))] [] ∧ lff (out_slices_IndexFunc_byte_byte_2 a0) (getL x6) r)) ∧ ((isL x6) = false → (RunS (bloop (bexec C KK 19 WB135_0) [0, 1, 7, 8] KK) 0 [(0, (l_LB a0)), (1, (.func 125 [])), (7, (.int .i64 (a0.length : Int))), (8, (.int .i64 0))] [] (.exit 0) [] [] ∧ lff (out_slices_IndexFunc_byte_byte_2 a0) (-1) r)))) := fun C => by kernel_rfl
  refine spec_of (fun _ _ h => by cases h) rfl atab_135 WF135_ok ((e _).mpr ⟨rfl, by decide, ?_⟩)
  unfold slices_IndexFunc_byte_byte_2 at h
  obtain ⟨q6, h⟩ := bget hx6 h
  refine ⟨fun hb7 => ?_, fun hb7 => ?_⟩
  · have h := cond_t hb7 h
    refine ⟨by have h := s_slices_IndexFunc_byte_byte_2_L0 (d + 0) q6; rw [isL_t hb7] at h; exact h, ?_⟩
    exact lff_of h
  · have h := cond_f hb7 h
    refine ⟨by have h := s_slices_IndexFunc_byte_byte_2_L0 (d + 0) q6; rw [isL_f hb7] at h; exact h, ?_⟩
    exact lff_of h

/- slices.ContainsFunc[[][]byte,[]byte] -/
def slices_ContainsFunc_byte_byte (a0 : List (List UInt8)) : Option (Bool) :=
  (slices_IndexFunc_byte_byte_2 a0).bind fun (x1 : Int) => some (decide (x1 ≥ 0))
def out_slices_ContainsFunc_byte_byte (a0 : List (List UInt8)) (r : Bool) : AV × WH := ((.bool r), [])

theorem s_slices_ContainsFunc_byte_byte (d : Nat) {a0 : List (List UInt8)} {r : Bool} (h : slices_ContainsFunc_byte_byte a0 = some r) : Spec (wcalls atab (d + 3)) 124 [(l_LB a0), (.func 125 [])] [] (out_slices_ContainsFunc_byte_byte a0 r).1 (out_slices_ContainsFunc_byte_byte a0 r).2 := by
  obtain ⟨x1, hx1⟩ := wx (slices_IndexFunc_byte_byte_2 a0)
  have e : ∀ C : ACalls, wBody C (fun _ => none) KK WF124 [(l_LB a0), (.func 125 [])] [] (.cb [] [] (.int .i64 x1) (.fin (some false) [] none)) (out_slices_ContainsFunc_byte_byte a0 r).1 (out_slices_ContainsFunc_byte_byte a0 r).2 = (2 = 2 ∧ 2 ≤ 9 ∧ (Spec C 135 [(l_LB a0), (.func 125 [])] [] (.int .i64 x1) [] ∧ lff (out_slices_ContainsFunc_byte_byte a0) (decide (x1 ≥ 0)) r)) := fun C => by kernel_rfl
  refine spec_of (fun _ _ h => by cases h) rfl atab_124 WF124_ok ((e _).mpr ⟨rfl, by decide, ?_⟩)
  unfold slices_ContainsFunc_byte_byte at h
  obtain ⟨q1, h⟩ := bget hx1 h
  refine ⟨s_slices_IndexFunc_byte_byte_2 (d + 0) q1, ?_⟩
  exact lff_of h

/- osmosis/wal.long -/
def wal_long (records : List (List UInt8)) : Option (Bool) :=
  (slices_ContainsFunc_byte_byte records).bind fun (x1 : Bool) => some x1
def out_wal_long (records : List (List UInt8)) (r : Bool) : AV × WH := ((.bool r), [])

theorem s_wal_long (d : Nat) {records : List (List UInt8)} {r : Bool} (h : wal_long records = some r) : Spec (wcalls atab (d + 4)) 92 [(l_LB records)] [] (out_wal_long records r).1 (out_wal_long records r).2 := by
  obtain ⟨x1, hx1⟩ := wx (slices_ContainsFunc_byte_byte records)
  have e : ∀ C : ACalls, wBody C (fun _ => none) KK WF92 [(l_LB records)] [] (.cb [] [] (.bool x1) (.fin (some false) [] none)) (out_wal_long records r).1 (out_wal_long records r).2 = (1 = 1 ∧ 1 ≤ 5 ∧ (Spec C 124 [(l_LB records), (.func 125 [])] [] (.bool x1) [] ∧ lff (out_wal_long records) x1 r)) := fun C => by kernel_rfl
  refine spec_of (fun _ _ h => by cases h) rfl atab_92 WF92_ok ((e _).mpr ⟨rfl, by decide, ?_⟩)
  unfold wal_long at h
  obtain ⟨q1, h⟩ := bget hx1 h
  refine ⟨s_slices_ContainsFunc_byte_byte (d + 0) q1, ?_⟩
  exact lff_of h

/- (*osmosis/disk.Disk).Append -/
def disk_Disk_Append (parts : List (List UInt8)) (p_d : Int) (p_b1 : List UInt8) : Option (Bool × List UInt8) :=
  (slices_Concat_byte_byte parts).bind fun (x1 : List UInt8) => cond (decide ((IntKind.i64.wrap ((p_b1.length : Int) + (x1.length : Int))) > 65536)) (some (false, p_b1)) (gd (fitsB 1 (p_b1 ++ x1).length) (some (true, (p_b1 ++ x1))))
def out_disk_Disk_Append (parts : List (List UInt8)) (p_d : Int) (p_b1 : List UInt8) (r : Bool × List UInt8) : AV × WH := ((.bool r.1), [(some (.cells [(.acc 2 0 1 r.2.length true), (.int .i64 p_d)] false false)), none, (some (.cells (F_B r.2) false true))])

theorem s_disk_Disk_Append (d : Nat) {parts : List (List UInt8)} {p_d : Int} {p_b1 : List UInt8} {r : Bool × List UInt8} (h : disk_Disk_Append parts p_d p_b1 = some r) : Spec (wcalls atab (d + 3)) 43 [(.ptr (some (0, 0))), (l_LB parts)] [(some (.cells [(.acc 1 0 1 p_b1.length true), (.int .i64 p_d)] false false)), (some (.cells (F_B p_b1) false true))] (out_disk_Disk_Append parts p_d p_b1 r).1 (out_disk_Disk_Append parts p_d p_b1 r).2 := by
  obtain ⟨x1, hx1⟩ := wx (slices_Concat_byte_byte parts)
  have e : ∀ C : ACalls, wBody C (fun _ => none) KK WF43 [(.ptr (some (0, 0))), (l_LB parts)] [(some (.cells [(.acc 1 0 1 p_b1.length true), (.int .i64 p_d)] false false)), (some (.cells (F_B p_b1) false true))] (.call [] (some false) [] (l_B x1) [] (.br 16 (.fin (some false) [] (some true)) (.ap 23 (p_b1 ++ x1).length (F_B (p_b1 ++ x1)) (.st none (.fin (some false) [] (some true)))))) (out_disk_Disk_Append parts p_d p_b1 r).1 (out_disk_Disk_Append parts p_d p_b1 r).2 = (2 = 2 ∧ 2 ≤ 26 ∧ (Spec C 81 [(l_LB parts)] [] (l_B x1) [] ∧ (0 ≤ 0 ∧ (((decide ((IntKind.i64.wrap ((p_b1.length : Int) + (x1.length : Int))) > 65536)) = true → lff (out_disk_Disk_Append parts p_d p_b1) (false, p_b1) r) ∧ ((decide ((IntKind.i64.wrap ((p_b1.length : Int) + (x1.length : Int))) > 65536)) = false → (p_b1.length + x1.length = (p_b1 ++ x1).length ∧ (F_B p_b1 ++ F_B x1 = F_B (p_b1 ++ x1) ∧ (fitsB 1 (p_b1 ++ x1).length = true ∧ lff (out_disk_Disk_Append parts p_d p_b1) (true, (p_b1 ++ x1)) r)))))))) := fun C => by kernel_rfl
  refine spec_of (fun _ _ h => by cases h) rfl atab_43 WF43_ok ((e _).mpr ⟨rfl, by decide, ?_⟩)
  unfold disk_Disk_Append at h
  obtain ⟨q1, h⟩ := bget hx1 h
  refine ⟨s_slices_Concat_byte_byte (d + 0) q1, ?_⟩
  refine ⟨by decide, ?_⟩
  refine ⟨fun hb => ?_, fun hb => ?_⟩
  · have h := cond_t hb h
    exact lff_of h
  · have h := cond_f hb h
    obtain ⟨q2, h⟩ := gd_some h
    refine ⟨app_len _ _, ?_⟩
    refine ⟨(Row.app R_B _ _).symm, ?_⟩
    refine ⟨q2, ?_⟩
    exact lff_of h

/- (*osmosis/wal.Log).Add -/
def wal_Log_Add (records : List (List UInt8)) (p_b1 : Int) (p_b2 : List UInt8) : Option (Bool × List UInt8) :=
  (wal_long records).bind fun (x1 : Bool) => cond (!x1) ((frame_Lay [] records).bind fun (x2 : List UInt8) => (disk_Disk_Append [x2] p_b1 p_b2).bind fun (x3 : Bool × List UInt8) => some (x3.1, x3.2)) (some (false, p_b2))
def out_wal_Log_Add (records : List (List UInt8)) (p_b1 : Int) (p_b2 : List UInt8) (r : Bool × List UInt8) : AV × WH := ((.bool r.1), [(some (.cells [(.ptr (some (1, 0)))] false false)), (some (.cells [(.acc 3 0 1 r.2.length true), (.int .i64 p_b1)] false false)), none, (some (.cells (F_B r.2) false true))])

theorem s_wal_Log_Add (d : Nat) {records : List (List UInt8)} {p_b1 : Int} {p_b2 : List UInt8} {r : Bool × List UInt8} (h : wal_Log_Add records p_b1 p_b2 = some r) : Spec (wcalls atab (d + 5)) 35 [(.ptr (some (0, 0))), (l_LB records)] [(some (.cells [(.ptr (some (1, 0)))] false false)), (some (.cells [(.acc 2 0 1 p_b2.length true), (.int .i64 p_b1)] false false)), (some (.cells (F_B p_b2) false true))] (out_wal_Log_Add records p_b1 p_b2 r).1 (out_wal_Log_Add records p_b1 p_b2 r).2 := by
  obtain ⟨x1, hx1⟩ := wx (wal_long records)
  obtain ⟨x2, hx2⟩ := wx (frame_Lay [] records)
  obtain ⟨x3, hx3⟩ := wx (disk_Disk_Append [x2] p_b1 p_b2)
  have e : ∀ C : ACalls, wBody C (fun _ => none) KK WF35 [(.ptr (some (0, 0))), (l_LB records)] [(some (.cells [(.ptr (some (1, 0)))] false false)), (some (.cells [(.acc 2 0 1 p_b2.length true), (.int .i64 p_b1)] false false)), (some (.cells (F_B p_b2) false true))] (.cb [] [] (.bool x1) (.br 8 (.call [] (some false) [] (l_B x2) [] (.call [] none [] (.bool x3.1) [(some (.cells [(.acc 2 0 1 x3.2.length true), (.int .i64 p_b1)] false false)), none, (some (.cells (F_B x3.2) false true))] (.fin (some false) [] (some true)))) (.fin (some false) [] (some true)))) (out_wal_Log_Add records p_b1 p_b2 r).1 (out_wal_Log_Add records p_b1 p_b2 r).2 = (2 = 2 ∧ 2 ≤ 18 ∧ (Spec C 92 [(l_LB records)] [] (.bool x1) [] ∧ (((!x1) = true → (Spec C 23 [(l_B []), (l_LB records)] [] (l_B x2) [] ∧ (0 ≤ 0 ∧ (Spec C 43 [(.ptr (some (0, 0))), (l_LB [x2])] [(some (.cells [(.acc 1 0 1 p_b2.length true), (.int .i64 p_b1)] false false)), (some (.cells (F_B p_b2) false true))] (.bool x3.1) [(some (.cells [(.acc 2 0 1 x3.2.length true), (.int .i64 p_b1)] false false)), none, (some (.cells (F_B x3.2) false true))] ∧ (2 ≤ 3 ∧ lff (out_wal_Log_Add records p_b1 p_b2) (x3.1, x3.2) r))))) ∧ ((!x1) = false → lff (out_wal_Log_Add records p_b1 p_b2) (false, p_b2) r)))) := fun C => by kernel_rfl
  refine spec_of (fun _ _ h => by cases h) rfl atab_35 WF35_ok ((e _).mpr ⟨rfl, by decide, ?_⟩)
  unfold wal_Log_Add at h
  obtain ⟨q1, h⟩ := bget hx1 h
  refine ⟨s_wal_long (d + 0) q1, ?_⟩
  refine ⟨fun hb => ?_, fun hb => ?_⟩
  · have h := cond_t hb h
    obtain ⟨q2, h⟩ := bget hx2 h
    refine ⟨s_frame_Lay (d + 1) q2, ?_⟩
    refine ⟨by decide, ?_⟩
    obtain ⟨q3, h⟩ := bget hx3 h
    refine ⟨s_disk_Disk_Append (d + 1) q3, ?_⟩
    refine ⟨by decide, ?_⟩
    exact lff_of h
  · have h := cond_f hb h
    exact lff_of h

/- (*osmosis/disk.Disk).Sync -/
def disk_Disk_Sync (p_d : Int) (p_b1 : List UInt8) : Option (Int × Int) :=
  some ((IntKind.i64.wrap ((p_b1.length : Int) - p_d)), (p_b1.length : Int))
def out_disk_Disk_Sync (p_d : Int) (p_b1 : List UInt8) (r : Int × Int) : AV × WH := ((.int .i64 r.1), [(some (.cells [(.acc 1 0 1 p_b1.length true), (.int .i64 r.2)] false false)), (some (.cells (F_B p_b1) false true))])

theorem s_disk_Disk_Sync (d : Nat) {p_d : Int} {p_b1 : List UInt8} {r : Int × Int} (h : disk_Disk_Sync p_d p_b1 = some r) : Spec (wcalls atab (d + 1)) 38 [(.ptr (some (0, 0)))] [(some (.cells [(.acc 1 0 1 p_b1.length true), (.int .i64 p_d)] false false)), (some (.cells (F_B p_b1) false true))] (out_disk_Disk_Sync p_d p_b1 r).1 (out_disk_Disk_Sync p_d p_b1 r).2 := by
  have e : ∀ C : ACalls, wBody C (fun _ => none) KK WF38 [(.ptr (some (0, 0)))] [(some (.cells [(.acc 1 0 1 p_b1.length true), (.int .i64 p_d)] false false)), (some (.cells (F_B p_b1) false true))] (.st none (.fin (some false) [] none)) (out_disk_Disk_Sync p_d p_b1 r).1 (out_disk_Disk_Sync p_d p_b1 r).2 = (1 = 1 ∧ 1 ≤ 23 ∧ lff (out_disk_Disk_Sync p_d p_b1) ((IntKind.i64.wrap ((p_b1.length : Int) - p_d)), (p_b1.length : Int)) r) := fun C => by kernel_rfl
  refine spec_of (fun _ _ h => by cases h) rfl atab_38 WF38_ok ((e _).mpr ⟨rfl, by decide, ?_⟩)
  unfold disk_Disk_Sync at h
  exact lff_of h

/- (*osmosis/disk.Disk).Crash -/
def disk_Disk_Crash (keep : Int) (p_d : Int) (p_b1 : List UInt8) : Option (Int × Int × List UInt8) :=
  (slI p_b1 0 (IntKind.i64.wrap (p_d + (if (if (IntKind.i64.wrap ((p_b1.length : Int) - p_d)) < keep then (IntKind.i64.wrap ((p_b1.length : Int) - p_d)) else keep) > 0 then (if (IntKind.i64.wrap ((p_b1.length : Int) - p_d)) < keep then (IntKind.i64.wrap ((p_b1.length : Int) - p_d)) else keep) else 0)))).bind fun (x1 : List UInt8) => some ((if (if (IntKind.i64.wrap ((p_b1.length : Int) - p_d)) < keep then (IntKind.i64.wrap ((p_b1.length : Int) - p_d)) else keep) > 0 then (if (IntKind.i64.wrap ((p_b1.length : Int) - p_d)) < keep then (IntKind.i64.wrap ((p_b1.length : Int) - p_d)) else keep) else 0), (IntKind.i64.wrap (p_d + (if (if (IntKind.i64.wrap ((p_b1.length : Int) - p_d)) < keep then (IntKind.i64.wrap ((p_b1.length : Int) - p_d)) else keep) > 0 then (if (IntKind.i64.wrap ((p_b1.length : Int) - p_d)) < keep then (IntKind.i64.wrap ((p_b1.length : Int) - p_d)) else keep) else 0))), x1)
def out_disk_Disk_Crash (keep : Int) (p_d : Int) (p_b1 : List UInt8) (r : Int × Int × List UInt8) : AV × WH := ((.int .i64 r.1), [(some (.cells [(.acc 2 0 1 r.2.2.length true), (.int .i64 r.2.1)] false false)), none, (some (.cells (F_B r.2.2) false true))])

theorem s_disk_Disk_Crash (d : Nat) {keep : Int} {p_d : Int} {p_b1 : List UInt8} {r : Int × Int × List UInt8} (h : disk_Disk_Crash keep p_d p_b1 = some r) : Spec (wcalls atab (d + 1)) 41 [(.ptr (some (0, 0))), (.int .i64 keep)] [(some (.cells [(.acc 1 0 1 p_b1.length true), (.int .i64 p_d)] false false)), (some (.cells (F_B p_b1) false true))] (out_disk_Disk_Crash keep p_d p_b1 r).1 (out_disk_Disk_Crash keep p_d p_b1 r).2 := by
  obtain ⟨x1, hx1⟩ := wx (slI p_b1 0 (IntKind.i64.wrap (p_d + (if (if (IntKind.i64.wrap ((p_b1.length : Int) - p_d)) < keep then (IntKind.i64.wrap ((p_b1.length : Int) - p_d)) else keep) > 0 then (if (IntKind.i64.wrap ((p_b1.length : Int) - p_d)) < keep then (IntKind.i64.wrap ((p_b1.length : Int) - p_d)) else keep) else 0))))
  have e : ∀ C : ACalls, wBody C (fun _ => none) KK WF41 [(.ptr (some (0, 0))), (.int .i64 keep)] [(some (.cells [(.acc 1 0 1 p_b1.length true), (.int .i64 p_d)] false false)), (some (.cells (F_B p_b1) false true))] (.st none (.v 35 (.acc 1 0 1 x1.length false) (.st none (.fin (some false) [] (some true))))) (out_disk_Disk_Crash keep p_d p_b1 r).1 (out_disk_Disk_Crash keep p_d p_b1 r).2 = (2 = 2 ∧ 2 ≤ 39 ∧ (wP (.slice 1 (.c (.acc 1 0 1 p_b1.length true)) none (some (.c (.int .i64 (IntKind.i64.wrap (p_d + (if (if (IntKind.i64.wrap ((p_b1.length : Int) - p_d)) < keep then (IntKind.i64.wrap ((p_b1.length : Int) - p_d)) else keep) > 0 then (if (IntKind.i64.wrap ((p_b1.length : Int) - p_d)) < keep then (IntKind.i64.wrap ((p_b1.length : Int) - p_d)) else keep) else 0)))))) none) = some (.acc 1 0 1 x1.length false) ∧ (@Eq AV (.int .i64 (if (if (IntKind.i64.wrap ((p_b1.length : Int) - p_d)) < keep then (IntKind.i64.wrap ((p_b1.length : Int) - p_d)) else keep) > 0 then (if (IntKind.i64.wrap ((p_b1.length : Int) - p_d)) < keep then (IntKind.i64.wrap ((p_b1.length : Int) - p_d)) else keep) else 0)) (out_disk_Disk_Crash keep p_d p_b1 r).1 ∧ @Eq WH [(some (.cells [(.acc 2 0 1 x1.length true), (.int .i64 (IntKind.i64.wrap (p_d + (if (if (IntKind.i64.wrap ((p_b1.length : Int) - p_d)) < keep then (IntKind.i64.wrap ((p_b1.length : Int) - p_d)) else keep) > 0 then (if (IntKind.i64.wrap ((p_b1.length : Int) - p_d)) < keep then (IntKind.i64.wrap ((p_b1.length : Int) - p_d)) else keep) else 0))))] false false)), none, (some (.cells ((F_B p_b1).take (x1.length * 1)) false true))] (out_disk_Disk_Crash keep p_d p_b1 r).2))) := fun C => by kernel_rfl
  refine spec_of (fun _ _ h => by cases h) rfl atab_41 WF41_ok ((e _).mpr ⟨rfl, by decide, ?_⟩)
  unfold disk_Disk_Crash at h
  obtain ⟨q1, h⟩ := bget hx1 h
  refine ⟨wP_slA_h R_B q1, ?_⟩
  try rw [take_row R_B q1]
  try rw [part_row0 R_B q1]
  obtain rfl := Option.some.inj h
  refine ⟨?_, ?_⟩ <;> first | rfl | (simp only [out_disk_Disk_Crash, List.length_set, List.length_append, List.length_replicate, List.length_cons, List.length_nil, List.length_take, List.length_drop, Nat.add_zero, Nat.zero_add]; done) | simp [out_disk_Disk_Crash]

/- (*osmosis/disk.Disk).Bytes -/
def disk_Disk_Bytes_2 (p_d : Int) (p_b1 : List UInt8) : Option (List UInt8) :=
  gd (fitsB 1 p_b1.length) (some p_b1)
def out_disk_Disk_Bytes_2 (p_d : Int) (p_b1 : List UInt8) (r : List UInt8) : AV × WH := ((l_B r), [(some (.cells [(.acc 1 0 1 p_b1.length true), (.int .i64 p_d)] false false)), (some (.cells (F_B p_b1) false true))])

theorem s_disk_Disk_Bytes_2 (d : Nat) {p_d : Int} {p_b1 : List UInt8} {r : List UInt8} (h : disk_Disk_Bytes_2 p_d p_b1 = some r) : Spec (wcalls atab (d + 2)) 50 [(.ptr (some (0, 0)))] [(some (.cells [(.acc 1 0 1 p_b1.length true), (.int .i64 p_d)] false false)), (some (.cells (F_B p_b1) false true))] (out_disk_Disk_Bytes_2 p_d p_b1 r).1 (out_disk_Disk_Bytes_2 p_d p_b1 r).2 := by
  have e : ∀ C : ACalls, wBody C wB KK WF50 [(.ptr (some (0, 0)))] [(some (.cells [(.acc 1 0 1 p_b1.length true), (.int .i64 p_d)] false false)), (some (.cells (F_B p_b1) false true))] (.fin (some false) [] none) (out_disk_Disk_Bytes_2 p_d p_b1 r).1 (out_disk_Disk_Bytes_2 p_d p_b1 r).2 = (1 = 1 ∧ 1 ≤ 9 ∧ (fitsB 1 p_b1.length = true ∧ lff (out_disk_Disk_Bytes_2 p_d p_b1) p_b1 r)) := fun C => by kernel_rfl
  refine spec_of (wB_ok _) rfl atab_50 WF50_ok ((e _).mpr ⟨rfl, by decide, ?_⟩)
  unfold disk_Disk_Bytes_2 at h
  obtain ⟨q1, h⟩ := gd_some h
  refine ⟨q1, ?_⟩
  exact lff_of h

/- (*osmosis/disk.Disk).Swap -/
def disk_Disk_Swap_2 (p_b : List UInt8) (p_d : Int) (p_b1 : List UInt8) : Option (Bool × Int × List UInt8) :=
  cond (decide ((p_b.length : Int) > 65536)) (some (false, p_d, p_b1)) (gd (fitsB 1 p_b.length) (some (true, (p_b.length : Int), p_b)))
def out_disk_Disk_Swap_2 (p_b : List UInt8) (p_d : Int) (p_b1 : List UInt8) (r : Bool × Int × List UInt8) : AV × WH := ((.bool r.1), [(some (.cells [(.acc 2 0 1 r.2.2.length true), (.int .i64 r.2.1)] false false)), none, (some (.cells (F_B r.2.2) false true))])

theorem s_disk_Disk_Swap_2 (d : Nat) {p_b : List UInt8} {p_d : Int} {p_b1 : List UInt8} {r : Bool × Int × List UInt8} (h : disk_Disk_Swap_2 p_b p_d p_b1 = some r) : Spec (wcalls atab (d + 2)) 91 [(.ptr (some (0, 0))), (l_B p_b)] [(some (.cells [(.acc 1 0 1 p_b1.length true), (.int .i64 p_d)] false false)), (some (.cells (F_B p_b1) false true))] (out_disk_Disk_Swap_2 p_b p_d p_b1 r).1 (out_disk_Disk_Swap_2 p_b p_d p_b1 r).2 := by
  have e : ∀ C : ACalls, wBody C wB KK WF91 [(.ptr (some (0, 0))), (l_B p_b)] [(some (.cells [(.acc 1 0 1 p_b1.length true), (.int .i64 p_d)] false false)), (some (.cells (F_B p_b1) false true))] (.br 7 (.fin (some false) [] (some true)) (.st none (.st none (.kl [1] (.fin (some false) [] (some true)))))) (out_disk_Disk_Swap_2 p_b p_d p_b1 r).1 (out_disk_Disk_Swap_2 p_b p_d p_b1 r).2 = (2 = 2 ∧ 2 ≤ 18 ∧ (((decide ((p_b.length : Int) > 65536)) = true → lff (out_disk_Disk_Swap_2 p_b p_d p_b1) (false, p_d, p_b1) r) ∧ ((decide ((p_b.length : Int) > 65536)) = false → (fitsB 1 p_b.length = true ∧ lff (out_disk_Disk_Swap_2 p_b p_d p_b1) (true, (p_b.length : Int), p_b) r)))) := fun C => by kernel_rfl
  refine spec_of (wB_ok _) rfl atab_91 WF91_ok ((e _).mpr ⟨rfl, by decide, ?_⟩)
  unfold disk_Disk_Swap_2 at h
  refine ⟨fun hb => ?_, fun hb => ?_⟩
  · have h := cond_t hb h
    exact lff_of h
  · have h := cond_f hb h
    obtain ⟨q1, h⟩ := gd_some h
    refine ⟨q1, ?_⟩
    exact lff_of h

/- osmosis/wal.Open -/
def wal_Open_2 (p_d : Int) (p_b1 : List UInt8) : Option (Int × List UInt8) :=
  (disk_Disk_Bytes_2 p_d p_b1).bind fun (x1 : List UInt8) => (frame_Read x1).bind fun (x2 : List (List UInt8) × Int) => cond (decide (x2.2 < (x1.length : Int))) ((slI x1 0 x2.2).bind fun (x3 : List UInt8) => (disk_Disk_Swap_2 x3 p_d p_b1).bind fun (x4 : Bool × Int × List UInt8) => some (x4.2.1, x4.2.2)) (some (p_d, p_b1))
def out_wal_Open_2 (p_d : Int) (p_b1 : List UInt8) (r : Int × List UInt8) : AV × WH := ((.ptr (some (2, 0))), [(some (.cells [(.acc 3 0 1 r.2.length true), (.int .i64 r.1)] false false)), none, (some (.cells [(.ptr (some (0, 0)))] false false)), (some (.cells (F_B r.2) false true))])

theorem s_wal_Open_2 (d : Nat) {p_d : Int} {p_b1 : List UInt8} {r : Int × List UInt8} (h : wal_Open_2 p_d p_b1 = some r) : Spec (wcalls atab (d + 7)) 31 [(.ptr (some (0, 0)))] [(some (.cells [(.acc 1 0 1 p_b1.length true), (.int .i64 p_d)] false false)), (some (.cells (F_B p_b1) false true))] (out_wal_Open_2 p_d p_b1 r).1 (out_wal_Open_2 p_d p_b1 r).2 := by
  obtain ⟨x1, hx1⟩ := wx (disk_Disk_Bytes_2 p_d p_b1)
  obtain ⟨x2, hx2⟩ := wx (frame_Read x1)
  obtain ⟨x3, hx3⟩ := wx (slI x1 0 x2.2)
  obtain ⟨x4, hx4⟩ := wx (disk_Disk_Swap_2 x3 p_d p_b1)
  have e : ∀ C : ACalls, wBody C (fun _ => none) KK WF31 [(.ptr (some (0, 0)))] [(some (.cells [(.acc 1 0 1 p_b1.length true), (.int .i64 p_d)] false false)), (some (.cells (F_B p_b1) false true))] (.call [] none [] (l_B x1) [(some (.cells [(.acc 1 0 1 p_b1.length true), (.int .i64 p_d)] false false)), (some (.cells (F_B p_b1) false true))] (.call [] (some false) [] (.tuple [(l_LB x2.1), (.int .i64 x2.2)]) [] (.br 18 (.v 22 (l_B x3) (.call [] none [] (.bool x4.1) [(some (.cells [(.acc 2 0 1 x4.2.2.length true), (.int .i64 x4.2.1)] false false)), none, (some (.cells (F_B x4.2.2) false true))] (.fin (some false) [] (some true)))) (.fin (some false) [] (some true))))) (out_wal_Open_2 p_d p_b1 r).1 (out_wal_Open_2 p_d p_b1 r).2 = (1 = 1 ∧ 1 ≤ 27 ∧ (Spec C 50 [(.ptr (some (0, 0)))] [(some (.cells [(.acc 1 0 1 p_b1.length true), (.int .i64 p_d)] false false)), (some (.cells (F_B p_b1) false true))] (l_B x1) [(some (.cells [(.acc 1 0 1 p_b1.length true), (.int .i64 p_d)] false false)), (some (.cells (F_B p_b1) false true))] ∧ (2 ≤ 2 ∧ (Spec C 24 [(l_B x1)] [] (.tuple [(l_LB x2.1), (.int .i64 x2.2)]) [] ∧ (0 ≤ 0 ∧ (((decide (x2.2 < (x1.length : Int))) = true → (wP (.slice 1 (.c (l_B x1)) none (some (.c (.int .i64 x2.2))) none) = some (l_B x3) ∧ (Spec C 91 [(.ptr (some (0, 0))), (l_B x3)] [(some (.cells [(.acc 1 0 1 p_b1.length true), (.int .i64 p_d)] false false)), (some (.cells (F_B p_b1) false true))] (.bool x4.1) [(some (.cells [(.acc 2 0 1 x4.2.2.length true), (.int .i64 x4.2.1)] false false)), none, (some (.cells (F_B x4.2.2) false true))] ∧ (2 ≤ 3 ∧ lff (out_wal_Open_2 p_d p_b1) (x4.2.1, x4.2.2) r)))) ∧ ((decide (x2.2 < (x1.length : Int))) = false → lff (out_wal_Open_2 p_d p_b1) (p_d, p_b1) r))))))) := fun C => by kernel_rfl
  refine spec_of (fun _ _ h => by cases h) rfl atab_31 WF31_ok ((e _).mpr ⟨rfl, by decide, ?_⟩)
  unfold wal_Open_2 at h
  obtain ⟨q1, h⟩ := bget hx1 h
  refine ⟨s_disk_Disk_Bytes_2 (d + 4) q1, ?_⟩
  refine ⟨by decide, ?_⟩
  obtain ⟨q2, h⟩ := bget hx2 h
  refine ⟨s_frame_Read (d + 0) q2, ?_⟩
  refine ⟨by decide, ?_⟩
  refine ⟨fun hb => ?_, fun hb => ?_⟩
  · have h := cond_t hb h
    obtain ⟨q3, h⟩ := bget hx3 h
    refine ⟨wP_sl_h R_B q3, ?_⟩
    obtain ⟨q4, h⟩ := bget hx4 h
    refine ⟨s_disk_Disk_Swap_2 (d + 4) q4, ?_⟩
    refine ⟨by decide, ?_⟩
    exact lff_of h
  · have h := cond_f hb h
    exact lff_of h

/- (*osmosis/wal.Log).Records -/
def wal_Log_Records (p_b1 : Int) (p_b2 : List UInt8) : Option (List (List UInt8)) :=
  (disk_Disk_Bytes_2 p_b1 p_b2).bind fun (x1 : List UInt8) => (frame_Read x1).bind fun (x2 : List (List UInt8) × Int) => some x2.1
def out_wal_Log_Records (p_b1 : Int) (p_b2 : List UInt8) (r : List (List UInt8)) : AV × WH := ((l_LB r), [(some (.cells [(.ptr (some (1, 0)))] false false)), (some (.cells [(.acc 2 0 1 p_b2.length true), (.int .i64 p_b1)] false false)), (some (.cells (F_B p_b2) false true))])

theorem s_wal_Log_Records (d : Nat) {p_b1 : Int} {p_b2 : List UInt8} {r : List (List UInt8)} (h : wal_Log_Records p_b1 p_b2 = some r) : Spec (wcalls atab (d + 7)) 36 [(.ptr (some (0, 0)))] [(some (.cells [(.ptr (some (1, 0)))] false false)), (some (.cells [(.acc 2 0 1 p_b2.length true), (.int .i64 p_b1)] false false)), (some (.cells (F_B p_b2) false true))] (out_wal_Log_Records p_b1 p_b2 r).1 (out_wal_Log_Records p_b1 p_b2 r).2 := by
  obtain ⟨x1, hx1⟩ := wx (disk_Disk_Bytes_2 p_b1 p_b2)
  obtain ⟨x2, hx2⟩ := wx (frame_Read x1)
  have e : ∀ C : ACalls, wBody C (fun _ => none) KK WF36 [(.ptr (some (0, 0)))] [(some (.cells [(.ptr (some (1, 0)))] false false)), (some (.cells [(.acc 2 0 1 p_b2.length true), (.int .i64 p_b1)] false false)), (some (.cells (F_B p_b2) false true))] (.call [] none [] (l_B x1) [(some (.cells [(.acc 1 0 1 p_b2.length true), (.int .i64 p_b1)] false false)), (some (.cells (F_B p_b2) false true))] (.call [] (some false) [] (.tuple [(l_LB x2.1), (.int .i64 x2.2)]) [] (.fin (some false) [] none))) (out_wal_Log_Records p_b1 p_b2 r).1 (out_wal_Log_Records p_b1 p_b2 r).2 = (1 = 1 ∧ 1 ≤ 15 ∧ (Spec C 50 [(.ptr (some (0, 0)))] [(some (.cells [(.acc 1 0 1 p_b2.length true), (.int .i64 p_b1)] false false)), (some (.cells (F_B p_b2) false true))] (l_B x1) [(some (.cells [(.acc 1 0 1 p_b2.length true), (.int .i64 p_b1)] false false)), (some (.cells (F_B p_b2) false true))] ∧ (2 ≤ 2 ∧ (Spec C 24 [(l_B x1)] [] (.tuple [(l_LB x2.1), (.int .i64 x2.2)]) [] ∧ (0 ≤ 0 ∧ lff (out_wal_Log_Records p_b1 p_b2) x2.1 r))))) := fun C => by kernel_rfl
  refine spec_of (fun _ _ h => by cases h) rfl atab_36 WF36_ok ((e _).mpr ⟨rfl, by decide, ?_⟩)
  unfold wal_Log_Records at h
  obtain ⟨q1, h⟩ := bget hx1 h
  refine ⟨s_disk_Disk_Bytes_2 (d + 4) q1, ?_⟩
  refine ⟨by decide, ?_⟩
  obtain ⟨q2, h⟩ := bget hx2 h
  refine ⟨s_frame_Read (d + 0) q2, ?_⟩
  refine ⟨by decide, ?_⟩
  exact lff_of h

/- (*osmosis/disk.Disk).Size -/
def disk_Disk_Size (p_d : Int) (p_b1 : List UInt8) : Option (Int) :=
  some (p_b1.length : Int)
def out_disk_Disk_Size (p_d : Int) (p_b1 : List UInt8) (r : Int) : AV × WH := ((.int .i64 r), [(some (.cells [(.acc 1 0 1 p_b1.length true), (.int .i64 p_d)] false false)), (some (.cells (F_B p_b1) false true))])

theorem s_disk_Disk_Size (d : Nat) {p_d : Int} {p_b1 : List UInt8} {r : Int} (h : disk_Disk_Size p_d p_b1 = some r) : Spec (wcalls atab (d + 1)) 39 [(.ptr (some (0, 0)))] [(some (.cells [(.acc 1 0 1 p_b1.length true), (.int .i64 p_d)] false false)), (some (.cells (F_B p_b1) false true))] (out_disk_Disk_Size p_d p_b1 r).1 (out_disk_Disk_Size p_d p_b1 r).2 := by
  have e : ∀ C : ACalls, wBody C (fun _ => none) KK WF39 [(.ptr (some (0, 0)))] [(some (.cells [(.acc 1 0 1 p_b1.length true), (.int .i64 p_d)] false false)), (some (.cells (F_B p_b1) false true))] (.fin (some false) [] none) (out_disk_Disk_Size p_d p_b1 r).1 (out_disk_Disk_Size p_d p_b1 r).2 = (1 = 1 ∧ 1 ≤ 8 ∧ lff (out_disk_Disk_Size p_d p_b1) (p_b1.length : Int) r) := fun C => by kernel_rfl
  refine spec_of (fun _ _ h => by cases h) rfl atab_39 WF39_ok ((e _).mpr ⟨rfl, by decide, ?_⟩)
  unfold disk_Disk_Size at h
  exact lff_of h

/- osmosis/osmosislaw5.known -/
abbrev in_osmosislaw5_known_J0 (x2 : Int × List UInt8) : Fast × WH := ([(1, (.ptr (some (0, 0)))), (2, (.ptr (some (1, 0))))], [(some (.cells [(.acc 2 0 1 x2.2.length true), (.int .i64 x2.1)] false false)), (some (.cells [(.ptr (some (0, 0)))] false false)), (some (.cells (F_B x2.2) false true))])
def fin_osmosislaw5_known_J0 (x2 : Int × List UInt8) : Unit → Ex × Fast × WH := fun e => (.normal, [(1, (.ptr (some (0, 0)))), (2, (.ptr (some (1, 0))))], [(some (.cells [(.acc 2 0 1 x2.2.length true), (.int .i64 x2.1)] false false)), (some (.cells [(.ptr (some (0, 0)))] false false)), (some (.cells (F_B x2.2) false true))])
def osmosislaw5_known_J0 (x2 : Int × List UInt8) : Option (Unit) :=
  some ()
theorem s_osmosislaw5_known_J0 (d : Nat) {x2 : Int × List UInt8} {r : Unit} (h : osmosislaw5_known_J0 x2 = some r) : RunX (bexec (wcalls atab (d + 0)) KK 58 WJ32_bbba) 0 (in_osmosislaw5_known_J0 x2) (fin_osmosislaw5_known_J0 x2 r) := by
  have e : ∀ C : ACalls, wCode C (fun _ => none) KK 58 0 WJ32_bbba (in_osmosislaw5_known_J0 x2).1 (in_osmosislaw5_known_J0 x2).2 (.en [1, 2] [none, none] [] []) (fin_osmosislaw5_known_J0 x2 r) = lfe (fin_osmosislaw5_known_J0 x2) () r := fun C => by kernel_rfl
  refine runS_of (fun _ _ h => by cases h) WJ32_bbba_ok (Nat.le_of_ble_eq_true rfl) ((e _).mpr ?_)
  unfold osmosislaw5_known_J0 at h
  exact lfe_of h

def osmosislaw5_known  : Option (Bool) :=
  (disk_New).bind fun (x1 : Int) => (wal_Open x1).bind fun (x2 : Int × List UInt8) => (osmosislaw5_known_J0 x2).bind fun (x3 : Unit) => (wal_Log_Add ([[(97 : UInt8)]]) x2.1 x2.2).bind fun (x4 : Bool × List UInt8) => (disk_Disk_Sync x2.1 x4.2).bind fun (x5 : Int × Int) => (wal_Log_Add ([[(98 : UInt8)]]) x5.2 x4.2).bind fun (x6 : Bool × List UInt8) => (disk_Disk_Crash 2 x5.2 x6.2).bind fun (x7 : Int × Int × List UInt8) => (wal_Open_2 x7.2.1 x7.2.2).bind fun (x8 : Int × List UInt8) => (wal_Log_Records x8.1 x8.2).bind fun (x9 : List (List UInt8)) => cond ((x9.length : Int) == 1) ((getI x9 0).bind fun (x10 : List UInt8) => cond (x10 == [97]) ((disk_Disk_Size x8.1 x8.2).bind fun (x11 : Int) => some (x11 == 10)) (some false)) (some false)
def out_osmosislaw5_known (r : Bool) : AV × WH := ((.bool r), [])

theorem s_osmosislaw5_known (d : Nat)  {r : Bool} (h : osmosislaw5_known = some r) : Spec (wcalls atab (d + 8)) 32 [] [] (out_osmosislaw5_known r).1 (out_osmosislaw5_known r).2 := by
  obtain ⟨x1, hx1⟩ := wx (disk_New)
  obtain ⟨x2, hx2⟩ := wx (wal_Open x1)
  obtain ⟨x3, hx3⟩ := wx (osmosislaw5_known_J0 x2)
  obtain ⟨x4, hx4⟩ := wx (wal_Log_Add ([[(97 : UInt8)]]) x2.1 x2.2)
  obtain ⟨x5, hx5⟩ := wx (disk_Disk_Sync x2.1 x4.2)
  obtain ⟨x6, hx6⟩ := wx (wal_Log_Add ([[(98 : UInt8)]]) x5.2 x4.2)
  obtain ⟨x7, hx7⟩ := wx (disk_Disk_Crash 2 x5.2 x6.2)
  obtain ⟨x8, hx8⟩ := wx (wal_Open_2 x7.2.1 x7.2.2)
  obtain ⟨x9, hx9⟩ := wx (wal_Log_Records x8.1 x8.2)
  obtain ⟨x10, hx10⟩ := wx (getI x9 0)
  obtain ⟨x11, hx11⟩ := wx (disk_Disk_Size x8.1 x8.2)
  have e : ∀ C : ACalls, wBody C (fun _ => none) KK WF32 [] [] (.call [] (some false) [] (.ptr (some (0, 0))) [(some (.cells [(.slice none 1 0 0 true), (.int .i64 x1)] false false))] (.call [] none [] (.ptr (some (1, 0))) [(some (.cells [(.acc 2 0 1 x2.2.length true), (.int .i64 x2.1)] false false)), (some (.cells [(.ptr (some (0, 0)))] false false)), (some (.cells (F_B x2.2) false true))] (.jn [1, 2] [none, none] [] [] .normal [(1, (.ptr (some (0, 0)))), (2, (.ptr (some (1, 0))))] [(some (.cells [(.acc 2 0 1 x2.2.length true), (.int .i64 x2.1)] false false)), (some (.cells [(.ptr (some (0, 0)))] false false)), (some (.cells (F_B x2.2) false true))] (.call [] none [] (.bool x4.1) [(some (.cells [(.ptr (some (1, 0)))] false false)), (some (.cells [(.acc 3 0 1 x4.2.length true), (.int .i64 x2.1)] false false)), none, (some (.cells (F_B x4.2) false true))] (.call [] none [] (.int .i64 x5.1) [(some (.cells [(.acc 1 0 1 x4.2.length true), (.int .i64 x5.2)] false false)), (some (.cells (F_B x4.2) false true))] (.call [] none [] (.bool x6.1) [(some (.cells [(.ptr (some (1, 0)))] false false)), (some (.cells [(.acc 3 0 1 x6.2.length true), (.int .i64 x5.2)] false false)), none, (some (.cells (F_B x6.2) false true))] (.call [] none [] (.int .i64 x7.1) [(some (.cells [(.acc 2 0 1 x7.2.2.length true), (.int .i64 x7.2.1)] false false)), none, (some (.cells (F_B x7.2.2) false true))] (.call [] none [] (.ptr (some (2, 0))) [(some (.cells [(.acc 3 0 1 x8.2.length true), (.int .i64 x8.1)] false false)), none, (some (.cells [(.ptr (some (0, 0)))] false false)), (some (.cells (F_B x8.2) false true))] (.call [] none [] (l_LB x9) [(some (.cells [(.ptr (some (1, 0)))] false false)), (some (.cells [(.acc 2 0 1 x8.2.length true), (.int .i64 x8.1)] false false)), (some (.cells (F_B x8.2) false true))] (.br 43 (.v 45 (.elem ([(l_B x10)] ++ F_LB (x9.drop ((0 : Int).toNat + 1)))) (.v 47 (.str x10) (.br 50 (.call [] none [] (.int .i64 x11) [(some (.cells [(.acc 1 0 1 x8.2.length true), (.int .i64 x8.1)] false false)), (some (.cells (F_B x8.2) false true))] (.fin (some false) [] none)) (.fin (some false) [] none)))) (.fin (some false) [] none))))))))))) (out_osmosislaw5_known r).1 (out_osmosislaw5_known r).2 = (0 = 0 ∧ 0 ≤ 58 ∧ (Spec C 30 [] [] (.ptr (some (0, 0))) [(some (.cells [(.slice none 1 0 0 true), (.int .i64 x1)] false false))] ∧ (0 ≤ 1 ∧ (Spec C 31 [(.ptr (some (0, 0)))] [(some (.cells [(.slice none 1 0 0 true), (.int .i64 x1)] false false))] (.ptr (some (1, 0))) [(some (.cells [(.acc 2 0 1 x2.2.length true), (.int .i64 x2.1)] false false)), (some (.cells [(.ptr (some (0, 0)))] false false)), (some (.cells (F_B x2.2) false true))] ∧ (1 ≤ 3 ∧ (RunS (bexec C KK 58 WJ32_bbba) 0 [(1, (.ptr (some (0, 0)))), (2, (.ptr (some (1, 0))))] [(some (.cells [(.acc 2 0 1 x2.2.length true), (.int .i64 x2.1)] false false)), (some (.cells [(.ptr (some (0, 0)))] false false)), (some (.cells (F_B x2.2) false true))] .normal [(1, (.ptr (some (0, 0)))), (2, (.ptr (some (1, 0))))] [(some (.cells [(.acc 2 0 1 x2.2.length true), (.int .i64 x2.1)] false false)), (some (.cells [(.ptr (some (0, 0)))] false false)), (some (.cells (F_B x2.2) false true))] ∧ (Spec C 35 [(.ptr (some (0, 0))), (l_LB ([[(97 : UInt8)]]))] [(some (.cells [(.ptr (some (1, 0)))] false false)), (some (.cells [(.acc 2 0 1 x2.2.length true), (.int .i64 x2.1)] false false)), (some (.cells (F_B x2.2) false true))] (.bool x4.1) [(some (.cells [(.ptr (some (1, 0)))] false false)), (some (.cells [(.acc 3 0 1 x4.2.length true), (.int .i64 x2.1)] false false)), none, (some (.cells (F_B x4.2) false true))] ∧ (3 ≤ 4 ∧ (Spec C 38 [(.ptr (some (0, 0)))] [(some (.cells [(.acc 1 0 1 x4.2.length true), (.int .i64 x2.1)] false false)), (some (.cells (F_B x4.2) false true))] (.int .i64 x5.1) [(some (.cells [(.acc 1 0 1 x4.2.length true), (.int .i64 x5.2)] false false)), (some (.cells (F_B x4.2) false true))] ∧ (2 ≤ 2 ∧ (Spec C 35 [(.ptr (some (0, 0))), (l_LB ([[(98 : UInt8)]]))] [(some (.cells [(.ptr (some (1, 0)))] false false)), (some (.cells [(.acc 2 0 1 x4.2.length true), (.int .i64 x5.2)] false false)), (some (.cells (F_B x4.2) false true))] (.bool x6.1) [(some (.cells [(.ptr (some (1, 0)))] false false)), (some (.cells [(.acc 3 0 1 x6.2.length true), (.int .i64 x5.2)] false false)), none, (some (.cells (F_B x6.2) false true))] ∧ (3 ≤ 4 ∧ (Spec C 41 [(.ptr (some (0, 0))), (.int .i64 2)] [(some (.cells [(.acc 1 0 1 x6.2.length true), (.int .i64 x5.2)] false false)), (some (.cells (F_B x6.2) false true))] (.int .i64 x7.1) [(some (.cells [(.acc 2 0 1 x7.2.2.length true), (.int .i64 x7.2.1)] false false)), none, (some (.cells (F_B x7.2.2) false true))] ∧ (2 ≤ 3 ∧ (Spec C 31 [(.ptr (some (0, 0)))] [(some (.cells [(.acc 1 0 1 x7.2.2.length true), (.int .i64 x7.2.1)] false false)), (some (.cells (F_B x7.2.2) false true))] (.ptr (some (2, 0))) [(some (.cells [(.acc 3 0 1 x8.2.length true), (.int .i64 x8.1)] false false)), none, (some (.cells [(.ptr (some (0, 0)))] false false)), (some (.cells (F_B x8.2) false true))] ∧ (2 ≤ 4 ∧ (Spec C 36 [(.ptr (some (0, 0)))] [(some (.cells [(.ptr (some (1, 0)))] false false)), (some (.cells [(.acc 2 0 1 x8.2.length true), (.int .i64 x8.1)] false false)), (some (.cells (F_B x8.2) false true))] (l_LB x9) [(some (.cells [(.ptr (some (1, 0)))] false false)), (some (.cells [(.acc 2 0 1 x8.2.length true), (.int .i64 x8.1)] false false)), (some (.cells (F_B x8.2) false true))] ∧ (3 ≤ 3 ∧ ((((x9.length : Int) == 1) = true → (wP (.idxSlice 1 (.c (l_LB x9)) (.c (.int .i64 0))) = some (.elem ([(l_B x10)] ++ F_LB (x9.drop ((0 : Int).toNat + 1)))) ∧ ((toBytes (F_B x10)).map AV.str = some (.str x10) ∧ (((x10 == [97]) = true → (Spec C 39 [(.ptr (some (0, 0)))] [(some (.cells [(.acc 1 0 1 x8.2.length true), (.int .i64 x8.1)] false false)), (some (.cells (F_B x8.2) false true))] (.int .i64 x11) [(some (.cells [(.acc 1 0 1 x8.2.length true), (.int .i64 x8.1)] false false)), (some (.cells (F_B x8.2) false true))] ∧ (2 ≤ 2 ∧ lff out_osmosislaw5_known (x11 == 10) r))) ∧ ((x10 == [97]) = false → lff out_osmosislaw5_known false r))))) ∧ (((x9.length : Int) == 1) = false → lff out_osmosislaw5_known false r)))))))))))))))))))) := fun C => by kernel_rfl
  refine spec_of (fun _ _ h => by cases h) rfl atab_32 WF32_ok ((e _).mpr ⟨rfl, by decide, ?_⟩)
  unfold osmosislaw5_known at h
  obtain ⟨q1, h⟩ := bget hx1 h
  refine ⟨s_disk_New (d + 6) q1, ?_⟩
  refine ⟨by decide, ?_⟩
  obtain ⟨q2, h⟩ := bget hx2 h
  refine ⟨s_wal_Open (d + 0) q2, ?_⟩
  refine ⟨by decide, ?_⟩
  obtain ⟨q3, h⟩ := bget hx3 h
  refine ⟨s_osmosislaw5_known_J0 (d + 7) q3, ?_⟩
  obtain ⟨q4, h⟩ := bget hx4 h
  refine ⟨s_wal_Log_Add (d + 2) q4, ?_⟩
  refine ⟨by decide, ?_⟩
  obtain ⟨q5, h⟩ := bget hx5 h
  refine ⟨s_disk_Disk_Sync (d + 6) q5, ?_⟩
  refine ⟨by decide, ?_⟩
  obtain ⟨q6, h⟩ := bget hx6 h
  refine ⟨s_wal_Log_Add (d + 2) q6, ?_⟩
  refine ⟨by decide, ?_⟩
  obtain ⟨q7, h⟩ := bget hx7 h
  refine ⟨s_disk_Disk_Crash (d + 6) q7, ?_⟩
  refine ⟨by decide, ?_⟩
  obtain ⟨q8, h⟩ := bget hx8 h
  refine ⟨s_wal_Open_2 (d + 0) q8, ?_⟩
  refine ⟨by decide, ?_⟩
  obtain ⟨q9, h⟩ := bget hx9 h
  refine ⟨s_wal_Log_Records (d + 0) q9, ?_⟩
  refine ⟨by decide, ?_⟩
  refine ⟨fun hb => ?_, fun hb => ?_⟩
  · have h := cond_t hb h
    obtain ⟨q10, h⟩ := bget hx10 h
    refine ⟨wP_idx R_LB q10, ?_⟩
    refine ⟨by rw [show F_B x10 = (x10).map byteC from rfl, toBytes_map]; rfl, ?_⟩
    refine ⟨fun hb => ?_, fun hb => ?_⟩
    · have h := cond_t hb h
      obtain ⟨q11, h⟩ := bget hx11 h
      refine ⟨s_disk_Disk_Size (d + 6) q11, ?_⟩
      refine ⟨by decide, ?_⟩
      exact lff_of h
    · have h := cond_f hb h
      exact lff_of h
  · have h := cond_f hb h
    exact lff_of h

/- osmosis/osmosislaw5.some -/
abbrev in_osmosislaw5_some_J0 (s11 : Int × List (List UInt8)) (l : List (List UInt8)) : Fast × WH := ([(0, (l_LB l)), (3, (.acc 0 0 1 s11.2.length true)), (4, (.int .i64 s11.1))], [(some (.cells (F_LB s11.2) false true))])
def fin_osmosislaw5_some_J0 (s11 : Int × List (List UInt8)) (l : List (List UInt8)) : Unit ⊕ Unit → Ex × Fast × WH := fun
  | .inl e => (.normal, [(0, (l_LB l)), (3, (.acc 0 0 1 s11.2.length true)), (4, (.int .i64 s11.1))], [(some (.cells (F_LB s11.2) false true))])
  | .inr e => ((.exit 0), [(3, (.acc 0 0 1 s11.2.length true))], [(some (.cells (F_LB s11.2) false true))])
def osmosislaw5_some_J0 (s11 : Int × List (List UInt8)) (l : List (List UInt8)) : Option (Unit ⊕ Unit) :=
  cond (decide (s11.1 < (l.length : Int))) (cond (decide (s11.1 < 5)) (some (.inl ())) (some (.inr ()))) (some (.inr ()))
theorem s_osmosislaw5_some_J0 (d : Nat) {s11 : Int × List (List UInt8)} {l : List (List UInt8)} {r : Unit ⊕ Unit} (h : osmosislaw5_some_J0 s11 l = some r) : RunX (bexec (wcalls atab (d + 0)) KK 24 WJ33_bbabkla) 0 (in_osmosislaw5_some_J0 s11 l) (fin_osmosislaw5_some_J0 s11 l r) := by
  have e : ∀ C : ACalls, wCode C (fun _ => none) KK 24 0 WJ33_bbabkla (in_osmosislaw5_some_J0 s11 l).1 (in_osmosislaw5_some_J0 s11 l).2 (.br 9 (.br 12 (.en [0, 3, 4] [none, none, none] [] []) (.en [3] [none] [] [])) (.en [3] [none] [] [])) (fin_osmosislaw5_some_J0 s11 l r) = (((decide (s11.1 < (l.length : Int))) = true → (((decide (s11.1 < 5)) = true → lfe (fin_osmosislaw5_some_J0 s11 l) (.inl ()) r) ∧ ((decide (s11.1 < 5)) = false → lfe (fin_osmosislaw5_some_J0 s11 l) (.inr ()) r))) ∧ ((decide (s11.1 < (l.length : Int))) = false → lfe (fin_osmosislaw5_some_J0 s11 l) (.inr ()) r)) := fun C => by kernel_rfl
  refine runS_of (fun _ _ h => by cases h) WJ33_bbabkla_ok (Nat.le_of_ble_eq_true rfl) ((e _).mpr ?_)
  unfold osmosislaw5_some_J0 at h
  refine ⟨fun hb => ?_, fun hb => ?_⟩
  · have h := cond_t hb h
    refine ⟨fun hb => ?_, fun hb => ?_⟩
    · have h := cond_t hb h
      exact lfe_of h
    · have h := cond_f hb h
      exact lfe_of h
  · have h := cond_f hb h
    exact lfe_of h

def st_osmosislaw5_some_L1 (l : List (List UInt8)) (s11 : Int × List (List UInt8)) : List AV × WH := ([(l_LB l), (.acc 0 0 1 s11.2.length true), (.int .i64 s11.1)], [(some (.cells (F_LB s11.2) false true))])
def fin_osmosislaw5_some_L1 (l : List (List UInt8)) : (List (List UInt8)) → Ex × Fast × WH := fun e => ((.exit 0), [(3, (.acc 0 0 1 e.length true))], [(some (.cells (F_LB e) false true))])
abbrev rx_osmosislaw5_some_L1 (l : List (List UInt8)) := roundX [0, 3, 4] (st_osmosislaw5_some_L1 l) (fin_osmosislaw5_some_L1 l)
def osmosislaw5_some_L1_s (l : List (List UInt8)) (s11 : Int × List (List UInt8)) : Option ((Int × List (List UInt8)) ⊕ ((List (List UInt8)))) :=
  (osmosislaw5_some_J0 s11 l).bind fun (x12 : Unit ⊕ Unit) => cond (isL x12) ((getI l s11.1).bind fun (x14 : List UInt8) => (osmosishand_Few x14 60).bind fun (x15 : List UInt8) => gd (fitsB 24 (s11.2 ++ [x15]).length) (some (.inl ((IntKind.i64.wrap (s11.1 + 1)), (s11.2 ++ [x15]))))) (some (.inr s11.2))
def osmosislaw5_some_L1 (l : List (List UInt8)) (s11 : Int × List (List UInt8)) : Option ((List (List UInt8))) := loopX (osmosislaw5_some_L1_s l) KK s11
theorem b_osmosislaw5_some_L1 (d : Nat) {l : List (List UInt8)} {s11 : Int × List (List UInt8)} {r : (Int × List (List UInt8)) ⊕ ((List (List UInt8)))} (h : osmosislaw5_some_L1_s l s11 = some r) : RunX (bexec (wcalls atab (d + 1)) KK 24 WB33_0) 0 (inL [0, 3, 4] (st_osmosislaw5_some_L1 l s11)) (rx_osmosislaw5_some_L1 l r) := by
  obtain ⟨x12, hx12⟩ := wx (osmosislaw5_some_J0 s11 l)
  obtain ⟨x14, hx14⟩ := wx (getI l s11.1)
  obtain ⟨x15, hx15⟩ := wx (osmosishand_Few x14 60)
  have e : ∀ C : ACalls, wCode C (fun _ => none) KK 24 0 WB33_0 (inL [0, 3, 4] (st_osmosislaw5_some_L1 l s11)).1 (inL [0, 3, 4] (st_osmosislaw5_some_L1 l s11)).2 (.ite (isL x12) (.jn [0, 3, 4] [none, none, none] [] [] .normal [(0, (l_LB l)), (3, (.acc 0 0 1 s11.2.length true)), (4, (.int .i64 s11.1))] [(some (.cells (F_LB s11.2) false true))] (.v 18 (.elem ([(l_B x14)] ++ F_LB (l.drop (s11.1.toNat + 1)))) (.call [] (some false) [] (l_B x15) [] (.ap 22 (s11.2 ++ [x15]).length (F_LB (s11.2 ++ [x15])) (.en [0, 3, 4] [none, none, none] [] []))))) (.jn [0, 3, 4] [none, none, none] [] [] (.exit 0) [(3, (.acc 0 0 1 s11.2.length true))] [(some (.cells (F_LB s11.2) false true))] (.en [3] [none] [] []))) (rx_osmosislaw5_some_L1 l r) = (((isL x12) = true → (RunS (bexec C KK 24 WJ33_bbabkla) 0 [(0, (l_LB l)), (3, (.acc 0 0 1 s11.2.length true)), (4, (.int .i64 s11.1))] [(some (.cells (F_LB s11.2) false true))] .normal [(0, (l_LB l)), (3, (.acc 0 0 1 s11.2.length true)), (4, (.int .i64 s11.1))] [(some (.cells (F_LB s11.2) false true))] ∧ (wP (.idxSlice 1 (.c (l_LB l)) (.c (.int .i64 s11.1))) = some (.elem ([(l_B x14)] ++ F_LB (l.drop (s11.1.toNat + 1)))) ∧ (Spec C 34 [(l_B x14), (.int .i64 60)] [] (l_B x15) [] ∧ (0 ≤ 0 ∧ (s11.2.length + 1 = (s11.2 ++ [x15]).length ∧ (F_LB s11.2 ++ F_LB [x15] = F_LB (s11.2 ++ [x15]) ∧ (fitsB 24 (s11.2 ++ [x15]).length = true ∧ lfe (rx_osmosislaw5_some_L1 l) (.inl ((IntKind.i64.wrap (s11.1 + 1)), (s11.2 ++ [x15]))) r)))))))) ∧ ((isL x12) = false → (RunS (bexec C KK 24 WJ33_bbabkla) 0 [(0, (l_LB l)), (3, (.acc 0 0 1 s11.2.length true)), (4, (.int .i64 s11.1))] [(some (.cells (F_LB s11.2) false true))] (.exit 0) [(3, (.acc 0 0 1 s11.2.length true))] [(some (.cells (F_LB s11.2) false true))] ∧ lfe (rx_osmosislaw5_some_L1 l) (.inr s11.2) r))) := fun C => by kernel_rfl
  refine runS_of (fun _ _ h => by cases h) WB33_0_ok (Nat.le_of_ble_eq_true rfl) ((e _).mpr ?_)
  unfold osmosislaw5_some_L1_s at h
  obtain ⟨q12, h⟩ := bget hx12 h
  refine ⟨fun hb13 => ?_, fun hb13 => ?_⟩
  · have h := cond_t hb13 h
    refine ⟨by have h := s_osmosislaw5_some_J0 (d + 1) q12; rw [isL_t hb13] at h; exact h, ?_⟩
    obtain ⟨q14, h⟩ := bget hx14 h
    refine ⟨wP_idx R_LB q14, ?_⟩
    obtain ⟨q15, h⟩ := bget hx15 h
    refine ⟨s_osmosishand_Few (d + 0) q15, ?_⟩
    refine ⟨by decide, ?_⟩
    obtain ⟨q16, h⟩ := gd_some h
    refine ⟨by simp, ?_⟩
    refine ⟨(Row.app R_LB _ _).symm, ?_⟩
    refine ⟨q16, ?_⟩
    exact lfe_of h
  · have h := cond_f hb13 h
    refine ⟨by have h := s_osmosislaw5_some_J0 (d + 1) q12; rw [isL_f hb13] at h; exact h, ?_⟩
    exact lfe_of h
theorem s_osmosislaw5_some_L1 (d : Nat) {l : List (List UInt8)} {s11 : Int × List (List UInt8)} {r : (List (List UInt8))} (h : osmosislaw5_some_L1 l s11 = some r) : RunX (bloop (bexec (wcalls atab (d + 1)) KK 24 WB33_0) [0, 3, 4] KK) 0 (inL [0, 3, 4] (st_osmosislaw5_some_L1 l s11)) (fin_osmosislaw5_some_L1 l r) :=
  loop_of (st := st_osmosislaw5_some_L1 l) (fin := fin_osmosislaw5_some_L1 l) (step := osmosislaw5_some_L1_s l) (fun e => by (intro h; cases h)) (fun s x h => b_osmosislaw5_some_L1 d h) KK s11 r h

def osmosislaw5_some (l : List (List UInt8)) : Option (List (List UInt8)) :=
  (osmosislaw5_some_L1 l (0, [])).bind fun (x17 : (List (List UInt8))) => some x17
def out_osmosislaw5_some (l : List (List UInt8)) (r : List (List UInt8)) : AV × WH := ((l_LB r), [])

theorem s_osmosislaw5_some (d : Nat) {l : List (List UInt8)} {r : List (List UInt8)} (h : osmosislaw5_some l = some r) : Spec (wcalls atab (d + 2)) 33 [(l_LB l)] [] (out_osmosislaw5_some l r).1 (out_osmosislaw5_some l r).2 := by
  obtain ⟨x17, hx17⟩ := wx (osmosislaw5_some_L1 l (0, []))
  have e : ∀ C : ACalls, wBody C (fun _ => none) KK WF33 [(l_LB l)] [] (.lp [none, (some true), none] [] [] (.exit 0) [(3, (.acc 0 0 1 x17.length true))] [(some (.cells (F_LB x17) false true))] (.fin (some false) [] none)) (out_osmosislaw5_some l r).1 (out_osmosislaw5_some l r).2 = (1 = 1 ∧ 1 ≤ 24 ∧ (RunS (bloop (bexec C KK 24 WB33_0) [0, 3, 4] KK) 0 [(0, (l_LB l)), (3, (.acc 0 0 1 0 true)), (4, (.int .i64 0))] [(some (.cells (F_LB []) false true))] (.exit 0) [(3, (.acc 0 0 1 x17.length true))] [(some (.cells (F_LB x17) false true))] ∧ lff (out_osmosislaw5_some l) x17 r)) := fun C => by kernel_rfl
  refine spec_of (fun _ _ h => by cases h) rfl atab_33 WF33_ok ((e _).mpr ⟨rfl, by decide, ?_⟩)
  unfold osmosislaw5_some at h
  obtain ⟨q17, h⟩ := bget hx17 h
  refine ⟨s_osmosislaw5_some_L1 (d + 0) q17, ?_⟩
  exact lff_of h

/- (*osmosis/disk.Disk).Synced -/
def disk_Disk_Synced (p_d : Int) (p_b1 : List UInt8) : Option (Int) :=
  some p_d
def out_disk_Disk_Synced (p_d : Int) (p_b1 : List UInt8) (r : Int) : AV × WH := ((.int .i64 r), [(some (.cells [(.acc 1 0 1 p_b1.length true), (.int .i64 p_d)] false false)), (some (.cells (F_B p_b1) false true))])

theorem s_disk_Disk_Synced (d : Nat) {p_d : Int} {p_b1 : List UInt8} {r : Int} (h : disk_Disk_Synced p_d p_b1 = some r) : Spec (wcalls atab (d + 1)) 40 [(.ptr (some (0, 0)))] [(some (.cells [(.acc 1 0 1 p_b1.length true), (.int .i64 p_d)] false false)), (some (.cells (F_B p_b1) false true))] (out_disk_Disk_Synced p_d p_b1 r).1 (out_disk_Disk_Synced p_d p_b1 r).2 := by
  have e : ∀ C : ACalls, wBody C (fun _ => none) KK WF40 [(.ptr (some (0, 0)))] [(some (.cells [(.acc 1 0 1 p_b1.length true), (.int .i64 p_d)] false false)), (some (.cells (F_B p_b1) false true))] (.fin (some false) [] none) (out_disk_Disk_Synced p_d p_b1 r).1 (out_disk_Disk_Synced p_d p_b1 r).2 = (1 = 1 ∧ 1 ≤ 7 ∧ lff (out_disk_Disk_Synced p_d p_b1) p_d r) := fun C => by kernel_rfl
  refine spec_of (fun _ _ h => by cases h) rfl atab_40 WF40_ok ((e _).mpr ⟨rfl, by decide, ?_⟩)
  unfold disk_Disk_Synced at h
  exact lff_of h

/- osmosis/osmosislaw5.same -/
def st_osmosislaw5_same_L0 (a : List (List UInt8)) (p_b : List (List UInt8)) (s3 : Int) : List AV × WH := ([(l_LB a), (l_LB p_b), (.int .i64 (a.length : Int)), (.int .i64 s3)], [])
def fin_osmosislaw5_same_L0 (a : List (List UInt8)) (p_b : List (List UInt8)) : Unit ⊕ Unit → Ex × Fast × WH := fun
  | .inl e => (.ret, [(4, (.bool false))], [])
  | .inr e => ((.exit 0), [], [])
abbrev rx_osmosislaw5_same_L0 (a : List (List UInt8)) (p_b : List (List UInt8)) := roundX [0, 1, 12, 13] (st_osmosislaw5_same_L0 a p_b) (fin_osmosislaw5_same_L0 a p_b)
def osmosislaw5_same_L0_s (a : List (List UInt8)) (p_b : List (List UInt8)) (s3 : Int) : Option ((Int) ⊕ (Unit ⊕ Unit)) :=
  cond (decide (s3 < (a.length : Int))) ((getI a s3).bind fun (x4 : List UInt8) => (getI p_b s3).bind fun (x5 : List UInt8) => cond (!(x4 == x5)) (some (.inr (.inl ()))) (some (.inl (IntKind.i64.wrap (s3 + 1))))) (some (.inr (.inr ())))
def osmosislaw5_same_L0 (a : List (List UInt8)) (p_b : List (List UInt8)) (s3 : Int) : Option (Unit ⊕ Unit) := loopX (osmosislaw5_same_L0_s a p_b) KK s3
theorem b_osmosislaw5_same_L0 (d : Nat) {a : List (List UInt8)} {p_b : List (List UInt8)} {s3 : Int} {r : (Int) ⊕ (Unit ⊕ Unit)} (h : osmosislaw5_same_L0_s a p_b s3 = some r) : RunX (bexec (wcalls atab (d + 0)) KK 28 WB37_0) 0 (inL [0, 1, 12, 13] (st_osmosislaw5_same_L0 a p_b s3)) (rx_osmosislaw5_same_L0 a p_b r) := by
  obtain ⟨x4, hx4⟩ := wx (getI a s3)
  obtain ⟨x5, hx5⟩ := wx (getI p_b s3)
  have e : ∀ C : ACalls, wCode C (fun _ => none) KK 28 0 WB37_0 (inL [0, 1, 12, 13] (st_osmosislaw5_same_L0 a p_b s3)).1 (inL [0, 1, 12, 13] (st_osmosislaw5_same_L0 a p_b s3)).2 (.br 14 (.v 18 (.elem ([(l_B x4)] ++ F_LB (a.drop (s3.toNat + 1)))) (.v 20 (.str x4) (.v 23 (.elem ([(l_B x5)] ++ F_LB (p_b.drop (s3.toNat + 1)))) (.v 25 (.str x5) (.br 26 (.en [4] [none] [] []) (.en [0, 1, 12, 13] [none, none, none, none] [] [])))))) (.en [] [] [] [])) (rx_osmosislaw5_same_L0 a p_b r) = (((decide (s3 < (a.length : Int))) = true → (wP (.idxSlice 1 (.c (l_LB a)) (.c (.int .i64 s3))) = some (.elem ([(l_B x4)] ++ F_LB (a.drop (s3.toNat + 1)))) ∧ ((toBytes (F_B x4)).map AV.str = some (.str x4) ∧ (wP (.idxSlice 1 (.c (l_LB p_b)) (.c (.int .i64 s3))) = some (.elem ([(l_B x5)] ++ F_LB (p_b.drop (s3.toNat + 1)))) ∧ ((toBytes (F_B x5)).map AV.str = some (.str x5) ∧ (((!(x4 == x5)) = true → lfe (rx_osmosislaw5_same_L0 a p_b) (.inr (.inl ())) r) ∧ ((!(x4 == x5)) = false → lfe (rx_osmosislaw5_same_L0 a p_b) (.inl (IntKind.i64.wrap (s3 + 1))) r))))))) ∧ ((decide (s3 < (a.length : Int))) = false → lfe (rx_osmosislaw5_same_L0 a p_b) (.inr (.inr ())) r)) := fun C => by kernel_rfl
  refine runS_of (fun _ _ h => by cases h) WB37_0_ok (Nat.le_of_ble_eq_true rfl) ((e _).mpr ?_)
  unfold osmosislaw5_same_L0_s at h
  refine ⟨fun hb => ?_, fun hb => ?_⟩
  · have h := cond_t hb h
    obtain ⟨q4, h⟩ := bget hx4 h
    refine ⟨wP_idx R_LB q4, ?_⟩
    refine ⟨by rw [show F_B x4 = (x4).map byteC from rfl, toBytes_map]; rfl, ?_⟩
    obtain ⟨q5, h⟩ := bget hx5 h
    refine ⟨wP_idx R_LB q5, ?_⟩
    refine ⟨by rw [show F_B x5 = (x5).map byteC from rfl, toBytes_map]; rfl, ?_⟩
    refine ⟨fun hb => ?_, fun hb => ?_⟩
    · have h := cond_t hb h
      exact lfe_of h
    · have h := cond_f hb h
      exact lfe_of h
  · have h := cond_f hb h
    exact lfe_of h
theorem s_osmosislaw5_same_L0 (d : Nat) {a : List (List UInt8)} {p_b : List (List UInt8)} {s3 : Int} {r : Unit ⊕ Unit} (h : osmosislaw5_same_L0 a p_b s3 = some r) : RunX (bloop (bexec (wcalls atab (d + 0)) KK 28 WB37_0) [0, 1, 12, 13] KK) 0 (inL [0, 1, 12, 13] (st_osmosislaw5_same_L0 a p_b s3)) (fin_osmosislaw5_same_L0 a p_b r) :=
  loop_of (st := st_osmosislaw5_same_L0 a p_b) (fin := fin_osmosislaw5_same_L0 a p_b) (step := osmosislaw5_same_L0_s a p_b) (fun e => by rcases e with e | e <;> (intro h; cases h)) (fun s x h => b_osmosislaw5_same_L0 d h) KK s3 r h

def osmosislaw5_same (a : List (List UInt8)) (p_b : List (List UInt8)) : Option (Bool) :=
  cond ((a.length : Int) != (p_b.length : Int)) (some false) ((osmosislaw5_same_L0 a p_b 0).bind fun (x6 : Unit ⊕ Unit) => cond (isL x6) (some false) (some true))
def out_osmosislaw5_same (a : List (List UInt8)) (p_b : List (List UInt8)) (r : Bool) : AV × WH := ((.bool r), [])

theorem s_osmosislaw5_same (d : Nat) {a : List (List UInt8)} {p_b : List (List UInt8)} {r : Bool} (h : osmosislaw5_same a p_b = some r) : Spec (wcalls atab (d + 1)) 37 [(l_LB a), (l_LB p_b)] [] (out_osmosislaw5_same a p_b r).1 (out_osmosislaw5_same a p_b r).2 := by
  obtain ⟨x6, hx6⟩ := wx (osmosislaw5_same_L0 a p_b 0)
  have e : ∀ C : ACalls, wBody C (fun _ => none) KK WF37 [(l_LB a), (l_LB p_b)] [] (.br 10 (.fin (some false) [] none) (.ite (isL x6) (.lp [none, none, none, none] [] [] .ret [(4, (.bool false))] [] (.fin (some false) [] none)) (.lp [none, none, none, none] [] [] (.exit 0) [] [] (.fin (some false) [] none)))) (out_osmosislaw5_same a p_b r).1 (out_osmosislaw5_same a p_b r).2 = (2 = 2 ∧ 2 ≤ 28 ∧ ((((a.length : Int) != (p_b.length : Int)) = true → lff (out_osmosislaw5_same a p_b) false r) ∧ (((a.length : Int) != (p_b.length : Int)) = false → (((isL x6) = true → (RunS (bloop (bexec C KK 28 WB37_0) [0, 1, 12, 13] KK) 0 [(0, (l_LB a)), (1, (l_LB p_b)), (12, (.int .i64 (a.length : Int))), (13, (.int .i64 0))] [] .ret [(4, (.bool false))] [] ∧ lff (out_osmosislaw5_same a p_b) false r)) ∧ ((isL x6) = false → (RunS (bloop (bexec C KK 28 WB37_0) [0, 1, 12, 13] KK) 0 [(0, (l_LB a)), (1, (l_LB p_b)), (12, (.int .i64 (a.length : Int))), (13, (.int .i64 0))] [] (.exit 0) [] [] ∧ lff (out_osmosislaw5_same a p_b) true r)))))) := fun C => by kernel_rfl
  refine spec_of (fun _ _ h => by cases h) rfl atab_37 WF37_ok ((e _).mpr ⟨rfl, by decide, ?_⟩)
  unfold osmosislaw5_same at h
  refine ⟨fun hb => ?_, fun hb => ?_⟩
  · have h := cond_t hb h
    exact lff_of h
  · have h := cond_f hb h
    obtain ⟨q6, h⟩ := bget hx6 h
    refine ⟨fun hb7 => ?_, fun hb7 => ?_⟩
    · have h := cond_t hb7 h
      refine ⟨by have h := s_osmosislaw5_same_L0 (d + 0) q6; rw [isL_t hb7] at h; exact h, ?_⟩
      exact lff_of h
    · have h := cond_f hb7 h
      refine ⟨by have h := s_osmosislaw5_same_L0 (d + 0) q6; rw [isL_f hb7] at h; exact h, ?_⟩
      exact lff_of h

/- osmosis/osmosislaw5.WalCrash -/
abbrev in_osmosislaw5_WalCrash_J0 (synced : List (List UInt8)) (tail : List (List UInt8)) (keep : Int) (x2 : Int × List UInt8) : Fast × WH := ([(0, (l_LB synced)), (1, (l_LB tail)), (2, (.int .i64 keep)), (7, (.ptr (some (0, 0)))), (8, (.ptr (some (1, 0))))], [(some (.cells [(.acc 2 0 1 x2.2.length true), (.int .i64 x2.1)] false false)), (some (.cells [(.ptr (some (0, 0)))] false false)), (some (.cells (F_B x2.2) false true))])
def fin_osmosislaw5_WalCrash_J0 (synced : List (List UInt8)) (tail : List (List UInt8)) (keep : Int) (x2 : Int × List UInt8) : Unit ⊕ Unit → Ex × Fast × WH := fun
  | .inl e => (.ret, [(6, (.bool false))], [])
  | .inr e => (.normal, [(0, (l_LB synced)), (1, (l_LB tail)), (2, (.int .i64 keep)), (7, (.ptr (some (0, 0)))), (8, (.ptr (some (1, 0))))], [(some (.cells [(.acc 2 0 1 x2.2.length true), (.int .i64 x2.1)] false false)), (some (.cells [(.ptr (some (0, 0)))] false false)), (some (.cells (F_B x2.2) false true))])
def osmosislaw5_WalCrash_J0 (synced : List (List UInt8)) (tail : List (List UInt8)) (keep : Int) (x2 : Int × List UInt8) : Option (Unit ⊕ Unit) :=
  (osmosislaw5_known).bind fun (x3 : Bool) => cond (!x3) (some (.inl ())) (some (.inr ()))
theorem s_osmosislaw5_WalCrash_J0 (d : Nat) {synced : List (List UInt8)} {tail : List (List UInt8)} {keep : Int} {x2 : Int × List UInt8} {r : Unit ⊕ Unit} (h : osmosislaw5_WalCrash_J0 synced tail keep x2 = some r) : RunX (bexec (wcalls atab (d + 8)) KK 126 WJ9_bbba) 0 (in_osmosislaw5_WalCrash_J0 synced tail keep x2) (fin_osmosislaw5_WalCrash_J0 synced tail keep x2 r) := by
  obtain ⟨x3, hx3⟩ := wx (osmosislaw5_known)
  have e : ∀ C : ACalls, wCode C (fun _ => none) KK 126 0 WJ9_bbba (in_osmosislaw5_WalCrash_J0 synced tail keep x2).1 (in_osmosislaw5_WalCrash_J0 synced tail keep x2).2 (.cb [] [] (.bool x3) (.br 21 (.en [6] [none] [] []) (.en [0, 1, 2, 7, 8] [none, none, none, none, none] [] []))) (fin_osmosislaw5_WalCrash_J0 synced tail keep x2 r) = (Spec C 32 [] [] (.bool x3) [] ∧ (((!x3) = true → lfe (fin_osmosislaw5_WalCrash_J0 synced tail keep x2) (.inl ()) r) ∧ ((!x3) = false → lfe (fin_osmosislaw5_WalCrash_J0 synced tail keep x2) (.inr ()) r))) := fun C => by kernel_rfl
  refine runS_of (fun _ _ h => by cases h) WJ9_bbba_ok (Nat.le_of_ble_eq_true rfl) ((e _).mpr ?_)
  unfold osmosislaw5_WalCrash_J0 at h
  obtain ⟨q3, h⟩ := bget hx3 h
  refine ⟨s_osmosislaw5_known (d + 0) q3, ?_⟩
  refine ⟨fun hb => ?_, fun hb => ?_⟩
  · have h := cond_t hb h
    exact lfe_of h
  · have h := cond_f hb h
    exact lfe_of h

def st_osmosislaw5_WalCrash_L1 (x7 : List (List UInt8)) (x9 : Int × Int) (keep : Int) (x6 : List (List UInt8)) (s20 : Int × List Int × List UInt8) : List AV × WH := ([(.int .i64 keep), (.ptr (some (0, 0))), (.ptr (some (1, 0))), (l_LB x6), (l_LB x7), (.acc 2 0 1 s20.2.1.length true), (l_LB x7), (.int .i64 (x7.length : Int)), (.int .i64 s20.1)], [(some (.cells [(.acc 3 0 1 s20.2.2.length true), (.int .i64 x9.2)] false false)), (some (.cells [(.ptr (some (0, 0)))] false false)), (some (.cells (F_I s20.2.1) false true)), (some (.cells (F_B s20.2.2) false true))])
def fin_osmosislaw5_WalCrash_L1 (x7 : List (List UInt8)) (x9 : Int × Int) (keep : Int) (x6 : List (List UInt8)) : Unit ⊕ (List Int × List UInt8) → Ex × Fast × WH := fun
  | .inl e => (.ret, [(6, (.bool false))], [])
  | .inr e => ((.exit 0), [(2, (.int .i64 keep)), (7, (.ptr (some (0, 0)))), (8, (.ptr (some (1, 0)))), (9, (l_LB x6)), (10, (l_LB x7)), (11, (.acc 2 0 1 e.1.length true))], [(some (.cells [(.acc 3 0 1 e.2.length true), (.int .i64 x9.2)] false false)), (some (.cells [(.ptr (some (0, 0)))] false false)), (some (.cells (F_I e.1) false true)), (some (.cells (F_B e.2) false true))])
abbrev rx_osmosislaw5_WalCrash_L1 (x7 : List (List UInt8)) (x9 : Int × Int) (keep : Int) (x6 : List (List UInt8)) := roundX [2, 7, 8, 9, 10, 11, 42, 43, 44] (st_osmosislaw5_WalCrash_L1 x7 x9 keep x6) (fin_osmosislaw5_WalCrash_L1 x7 x9 keep x6)
def osmosislaw5_WalCrash_L1_s (x7 : List (List UInt8)) (x9 : Int × Int) (keep : Int) (x6 : List (List UInt8)) (s20 : Int × List Int × List UInt8) : Option ((Int × List Int × List UInt8) ⊕ (Unit ⊕ (List Int × List UInt8))) :=
  cond (decide (s20.1 < (x7.length : Int))) ((getI x7 s20.1).bind fun (x21 : List UInt8) => (wal_Log_Add [x21] x9.2 s20.2.2).bind fun (x22 : Bool × List UInt8) => cond (!x22.1) (some (.inr (.inl ()))) ((disk_Disk_Size x9.2 x22.2).bind fun (x23 : Int) => (disk_Disk_Synced x9.2 x22.2).bind fun (x24 : Int) => gd (fitsB 8 (s20.2.1 ++ [(IntKind.i64.wrap (x23 - x24))]).length) (some (.inl ((IntKind.i64.wrap (s20.1 + 1)), (s20.2.1 ++ [(IntKind.i64.wrap (x23 - x24))]), x22.2))))) (some (.inr (.inr (s20.2.1, s20.2.2))))
def osmosislaw5_WalCrash_L1 (x7 : List (List UInt8)) (x9 : Int × Int) (keep : Int) (x6 : List (List UInt8)) (s20 : Int × List Int × List UInt8) : Option (Unit ⊕ (List Int × List UInt8)) := loopX (osmosislaw5_WalCrash_L1_s x7 x9 keep x6) KK s20
theorem b_osmosislaw5_WalCrash_L1 (d : Nat) {x7 : List (List UInt8)} {x9 : Int × Int} {keep : Int} {x6 : List (List UInt8)} {s20 : Int × List Int × List UInt8} {r : (Int × List Int × List UInt8) ⊕ (Unit ⊕ (List Int × List UInt8))} (h : osmosislaw5_WalCrash_L1_s x7 x9 keep x6 s20 = some r) : RunX (bexec (wcalls atab (d + 5)) KK 126 WB9_0) 0 (inL [2, 7, 8, 9, 10, 11, 42, 43, 44] (st_osmosislaw5_WalCrash_L1 x7 x9 keep x6 s20)) (rx_osmosislaw5_WalCrash_L1 x7 x9 keep x6 r) := by
  obtain ⟨x21, hx21⟩ := wx (getI x7 s20.1)
  obtain ⟨x22, hx22⟩ := wx (wal_Log_Add [x21] x9.2 s20.2.2)
  obtain ⟨x23, hx23⟩ := wx (disk_Disk_Size x9.2 x22.2)
  obtain ⟨x24, hx24⟩ := wx (disk_Disk_Synced x9.2 x22.2)
  have e : ∀ C : ACalls, wCode C (fun _ => none) KK 126 0 WB9_0 (inL [2, 7, 8, 9, 10, 11, 42, 43, 44] (st_osmosislaw5_WalCrash_L1 x7 x9 keep x6 s20)).1 (inL [2, 7, 8, 9, 10, 11, 42, 43, 44] (st_osmosislaw5_WalCrash_L1 x7 x9 keep x6 s20)).2 (.br 45 (.v 46 (.elem ([(l_B x21)] ++ F_LB (x7.drop (s20.1.toNat + 1)))) (.call [] none [] (.bool x22.1) [(some (.cells [(.ptr (some (1, 0)))] false false)), (some (.cells [(.acc 3 0 1 x22.2.length true), (.int .i64 x9.2)] false false)), none, (some (.cells (F_B x22.2) false true))] (.br 52 (.en [6] [none] [] []) (.call [] none [] (.int .i64 x23) [(some (.cells [(.acc 1 0 1 x22.2.length true), (.int .i64 x9.2)] false false)), (some (.cells (F_B x22.2) false true))] (.call [] none [] (.int .i64 x24) [(some (.cells [(.acc 1 0 1 x22.2.length true), (.int .i64 x9.2)] false false)), (some (.cells (F_B x22.2) false true))] (.ap 66 (s20.2.1 ++ [(IntKind.i64.wrap (x23 - x24))]).length (F_I (s20.2.1 ++ [(IntKind.i64.wrap (x23 - x24))])) (.en [2, 7, 8, 9, 10, 11, 42, 43, 44] [none, none, none, none, none, none, none, none, none] [] []))))))) (.en [2, 7, 8, 9, 10, 11] [none, none, none, none, none, none] [] [])) (rx_osmosislaw5_WalCrash_L1 x7 x9 keep x6 r) = (((decide (s20.1 < (x7.length : Int))) = true → (wP (.idxSlice 1 (.c (l_LB x7)) (.c (.int .i64 s20.1))) = some (.elem ([(l_B x21)] ++ F_LB (x7.drop (s20.1.toNat + 1)))) ∧ (Spec C 35 [(.ptr (some (0, 0))), (l_LB [x21])] [(some (.cells [(.ptr (some (1, 0)))] false false)), (some (.cells [(.acc 2 0 1 s20.2.2.length true), (.int .i64 x9.2)] false false)), (some (.cells (F_B s20.2.2) false true))] (.bool x22.1) [(some (.cells [(.ptr (some (1, 0)))] false false)), (some (.cells [(.acc 3 0 1 x22.2.length true), (.int .i64 x9.2)] false false)), none, (some (.cells (F_B x22.2) false true))] ∧ (3 ≤ 4 ∧ (((!x22.1) = true → lfe (rx_osmosislaw5_WalCrash_L1 x7 x9 keep x6) (.inr (.inl ())) r) ∧ ((!x22.1) = false → (Spec C 39 [(.ptr (some (0, 0)))] [(some (.cells [(.acc 1 0 1 x22.2.length true), (.int .i64 x9.2)] false false)), (some (.cells (F_B x22.2) false true))] (.int .i64 x23) [(some (.cells [(.acc 1 0 1 x22.2.length true), (.int .i64 x9.2)] false false)), (some (.cells (F_B x22.2) false true))] ∧ (2 ≤ 2 ∧ (Spec C 40 [(.ptr (some (0, 0)))] [(some (.cells [(.acc 1 0 1 x22.2.length true), (.int .i64 x9.2)] false false)), (some (.cells (F_B x22.2) false true))] (.int .i64 x24) [(some (.cells [(.acc 1 0 1 x22.2.length true), (.int .i64 x9.2)] false false)), (some (.cells (F_B x22.2) false true))] ∧ (2 ≤ 2 ∧ (s20.2.1.length + 1 = (s20.2.1 ++ [(IntKind.i64.wrap (x23 - x24))]).length ∧ (F_I s20.2.1 ++ F_I ([(IntKind.i64.wrap (x23 - x24))]) = F_I (s20.2.1 ++ [(IntKind.i64.wrap (x23 - x24))]) ∧ (fitsB 8 (s20.2.1 ++ [(IntKind.i64.wrap (x23 - x24))]).length = true ∧ lfe (rx_osmosislaw5_WalCrash_L1 x7 x9 keep x6) (.inl ((IntKind.i64.wrap (s20.1 + 1)), (s20.2.1 ++ [(IntKind.i64.wrap (x23 - x24))]), x22.2)) r))))))))))))) ∧ ((decide (s20.1 < (x7.length : Int))) = false → lfe (rx_osmosislaw5_WalCrash_L1 x7 x9 keep x6) (.inr (.inr (s20.2.1, s20.2.2))) r)) := fun C => by kernel_rfl
  refine runS_of (fun _ _ h => by cases h) WB9_0_ok (Nat.le_of_ble_eq_true rfl) ((e _).mpr ?_)
  unfold osmosislaw5_WalCrash_L1_s at h
  refine ⟨fun hb => ?_, fun hb => ?_⟩
  · have h := cond_t hb h
    obtain ⟨q21, h⟩ := bget hx21 h
    refine ⟨wP_idx R_LB q21, ?_⟩
    obtain ⟨q22, h⟩ := bget hx22 h
    refine ⟨s_wal_Log_Add (d + 0) q22, ?_⟩
    refine ⟨by decide, ?_⟩
    refine ⟨fun hb => ?_, fun hb => ?_⟩
    · have h := cond_t hb h
      exact lfe_of h
    · have h := cond_f hb h
      obtain ⟨q23, h⟩ := bget hx23 h
      refine ⟨s_disk_Disk_Size (d + 4) q23, ?_⟩
      refine ⟨by decide, ?_⟩
      obtain ⟨q24, h⟩ := bget hx24 h
      refine ⟨s_disk_Disk_Synced (d + 4) q24, ?_⟩
      refine ⟨by decide, ?_⟩
      obtain ⟨q25, h⟩ := gd_some h
      refine ⟨by simp, ?_⟩
      refine ⟨(Row.app R_I _ _).symm, ?_⟩
      refine ⟨q25, ?_⟩
      exact lfe_of h
  · have h := cond_f hb h
    exact lfe_of h
theorem s_osmosislaw5_WalCrash_L1 (d : Nat) {x7 : List (List UInt8)} {x9 : Int × Int} {keep : Int} {x6 : List (List UInt8)} {s20 : Int × List Int × List UInt8} {r : Unit ⊕ (List Int × List UInt8)} (h : osmosislaw5_WalCrash_L1 x7 x9 keep x6 s20 = some r) : RunX (bloop (bexec (wcalls atab (d + 5)) KK 126 WB9_0) [2, 7, 8, 9, 10, 11, 42, 43, 44] KK) 0 (inL [2, 7, 8, 9, 10, 11, 42, 43, 44] (st_osmosislaw5_WalCrash_L1 x7 x9 keep x6 s20)) (fin_osmosislaw5_WalCrash_L1 x7 x9 keep x6 r) :=
  loop_of (st := st_osmosislaw5_WalCrash_L1 x7 x9 keep x6) (fin := fin_osmosislaw5_WalCrash_L1 x7 x9 keep x6) (step := osmosislaw5_WalCrash_L1_s x7 x9 keep x6) (fun e => by rcases e with e | e <;> (intro h; cases h)) (fun s x h => b_osmosislaw5_WalCrash_L1 d h) KK s20 r h

def st_osmosislaw5_WalCrash_L2 (x26 : Unit ⊕ (List Int × List UInt8)) (x30 : Int) (x6 : List (List UInt8)) (x7 : List (List UInt8)) (x31 : Int × Int × List UInt8) (s33 : Int) : List AV × WH := ([(.int .i64 x30), (.ptr (some (0, 0))), (l_LB x6), (l_LB x7), (.acc 1 0 1 (((getR x26).1).length) true), (.int .i64 s33)], [(some (.cells [(.acc 2 0 1 x31.2.2.length true), (.int .i64 x31.2.1)] false false)), (some (.cells (F_I ((getR x26).1)) false true)), (some (.cells (F_B x31.2.2) false true))])
def fin_osmosislaw5_WalCrash_L2 (x26 : Unit ⊕ (List Int × List UInt8)) (x30 : Int) (x6 : List (List UInt8)) (x7 : List (List UInt8)) (x31 : Int × Int × List UInt8) : Int → Ex × Fast × WH := fun e => ((.exit 2), [(7, (.ptr (some (0, 0)))), (9, (l_LB x6)), (10, (l_LB x7)), (14, (.int .i64 e))], [(some (.cells [(.acc 1 0 1 x31.2.2.length true), (.int .i64 x31.2.1)] false false)), (some (.cells (F_B x31.2.2) false true))])
abbrev rx_osmosislaw5_WalCrash_L2 (x26 : Unit ⊕ (List Int × List UInt8)) (x30 : Int) (x6 : List (List UInt8)) (x7 : List (List UInt8)) (x31 : Int × Int × List UInt8) := roundX [2, 7, 9, 10, 11, 14] (st_osmosislaw5_WalCrash_L2 x26 x30 x6 x7 x31) (fin_osmosislaw5_WalCrash_L2 x26 x30 x6 x7 x31)
def osmosislaw5_WalCrash_L2_s (x26 : Unit ⊕ (List Int × List UInt8)) (x30 : Int) (x6 : List (List UInt8)) (x7 : List (List UInt8)) (x31 : Int × Int × List UInt8) (s33 : Int) : Option ((Int) ⊕ (Int)) :=
  cond (decide (s33 < (((getR x26).1).length : Int))) ((getI ((getR x26).1) s33).bind fun (x34 : Int) => cond (decide (x34 ≤ x30)) (some (.inl (IntKind.i64.wrap (s33 + 1)))) (some (.inr s33))) (some (.inr s33))
def osmosislaw5_WalCrash_L2 (x26 : Unit ⊕ (List Int × List UInt8)) (x30 : Int) (x6 : List (List UInt8)) (x7 : List (List UInt8)) (x31 : Int × Int × List UInt8) (s33 : Int) : Option (Int) := loopX (osmosislaw5_WalCrash_L2_s x26 x30 x6 x7 x31) KK s33
theorem b_osmosislaw5_WalCrash_L2 (d : Nat) {x26 : Unit ⊕ (List Int × List UInt8)} {x30 : Int} {x6 : List (List UInt8)} {x7 : List (List UInt8)} {x31 : Int × Int × List UInt8} {s33 : Int} {r : (Int) ⊕ (Int)} (h : osmosislaw5_WalCrash_L2_s x26 x30 x6 x7 x31 s33 = some r) : RunX (bexec (wcalls atab (d + 0)) KK 126 WB9_1) 0 (inL [2, 7, 9, 10, 11, 14] (st_osmosislaw5_WalCrash_L2 x26 x30 x6 x7 x31 s33)) (rx_osmosislaw5_WalCrash_L2 x26 x30 x6 x7 x31 r) := by
  obtain ⟨x34, hx34⟩ := wx (getI ((getR x26).1) s33)
  have e : ∀ C : ACalls, wCode C (fun _ => none) KK 126 0 WB9_1 (inL [2, 7, 9, 10, 11, 14] (st_osmosislaw5_WalCrash_L2 x26 x30 x6 x7 x31 s33)).1 (inL [2, 7, 9, 10, 11, 14] (st_osmosislaw5_WalCrash_L2 x26 x30 x6 x7 x31 s33)).2 (.br 92 (.v 95 (.ptr (some (1, 0 + s33.toNat * 1))) (.v 96 (.int .i64 x34) (.br 99 (.en [2, 7, 9, 10, 11, 14] [none, none, none, none, none, none] [] []) (.en [7, 9, 10, 14] [none, none, none, none] [] [])))) (.en [7, 9, 10, 14] [none, none, none, none] [] [])) (rx_osmosislaw5_WalCrash_L2 x26 x30 x6 x7 x31 r) = (((decide (s33 < (((getR x26).1).length : Int))) = true → (wP (.idxSlice 1 (.c (.acc 1 0 1 (((getR x26).1).length) true)) (.c (.int .i64 s33))) = some (.ptr (some (1, 0 + s33.toNat * 1))) ∧ (cPart false (0 + s33.toNat * 1) 1 (F_I ((getR x26).1)) = some (.int .i64 x34) ∧ (((decide (x34 ≤ x30)) = true → lfe (rx_osmosislaw5_WalCrash_L2 x26 x30 x6 x7 x31) (.inl (IntKind.i64.wrap (s33 + 1))) r) ∧ ((decide (x34 ≤ x30)) = false → lfe (rx_osmosislaw5_WalCrash_L2 x26 x30 x6 x7 x31) (.inr s33) r))))) ∧ ((decide (s33 < (((getR x26).1).length : Int))) = false → lfe (rx_osmosislaw5_WalCrash_L2 x26 x30 x6 x7 x31) (.inr s33) r)) := fun C => by kernel_rfl
  refine runS_of (fun _ _ h => by cases h) WB9_1_ok (Nat.le_of_ble_eq_true rfl) ((e _).mpr ?_)
  unfold osmosislaw5_WalCrash_L2_s at h
  refine ⟨fun hb => ?_, fun hb => ?_⟩
  · have h := cond_t hb h
    obtain ⟨q34, h⟩ := bget hx34 h
    refine ⟨wP_idxA R_I q34, ?_⟩
    refine ⟨cP_row (o := 0) R_I q34 rfl, ?_⟩
    refine ⟨fun hb => ?_, fun hb => ?_⟩
    · have h := cond_t hb h
      exact lfe_of h
    · have h := cond_f hb h
      exact lfe_of h
  · have h := cond_f hb h
    exact lfe_of h
theorem s_osmosislaw5_WalCrash_L2 (d : Nat) {x26 : Unit ⊕ (List Int × List UInt8)} {x30 : Int} {x6 : List (List UInt8)} {x7 : List (List UInt8)} {x31 : Int × Int × List UInt8} {s33 : Int} {r : Int} (h : osmosislaw5_WalCrash_L2 x26 x30 x6 x7 x31 s33 = some r) : RunX (bloop (bexec (wcalls atab (d + 0)) KK 126 WB9_1) [2, 7, 9, 10, 11, 14] KK) 0 (inL [2, 7, 9, 10, 11, 14] (st_osmosislaw5_WalCrash_L2 x26 x30 x6 x7 x31 s33)) (fin_osmosislaw5_WalCrash_L2 x26 x30 x6 x7 x31 r) :=
  loop_of (st := st_osmosislaw5_WalCrash_L2 x26 x30 x6 x7 x31) (fin := fin_osmosislaw5_WalCrash_L2 x26 x30 x6 x7 x31) (step := osmosislaw5_WalCrash_L2_s x26 x30 x6 x7 x31) (fun e => by (intro h; cases h)) (fun s x h => b_osmosislaw5_WalCrash_L2 d h) KK s33 r h

def osmosislaw5_WalCrash (synced : List (List UInt8)) (tail : List (List UInt8)) (keep : Int) : Option (Bool) :=
  (disk_New).bind fun (x1 : Int) => (wal_Open x1).bind fun (x2 : Int × List UInt8) => (osmosislaw5_WalCrash_J0 synced tail keep x2).bind fun (x4 : Unit ⊕ Unit) => cond (isL x4) (some false) ((osmosislaw5_some synced).bind fun (x6 : List (List UInt8)) => (osmosislaw5_some tail).bind fun (x7 : List (List UInt8)) => (wal_Log_Add x6 x2.1 x2.2).bind fun (x8 : Bool × List UInt8) => cond (!x8.1) (some false) ((disk_Disk_Sync x2.1 x8.2).bind fun (x9 : Int × Int) => (osmosislaw5_WalCrash_L1 x7 x9 keep x6 (0, [], x8.2)).bind fun (x26 : Unit ⊕ (List Int × List UInt8)) => cond (isL x26) (some false) ((disk_Disk_Size x9.2 ((getR x26).2)).bind fun (x28 : Int) => (disk_Disk_Synced x9.2 ((getR x26).2)).bind fun (x29 : Int) => (osmosishand_Pick keep (IntKind.i64.wrap ((IntKind.i64.wrap (x28 - x29)) + 1))).bind fun (x30 : Int) => (disk_Disk_Crash x30 x9.2 ((getR x26).2)).bind fun (x31 : Int × Int × List UInt8) => (osmosislaw5_WalCrash_L2 x26 x30 x6 x7 x31 0).bind fun (x35 : Int) => (wal_Open_2 x31.2.1 x31.2.2).bind fun (x36 : Int × List UInt8) => (wal_Log_Records x36.1 x36.2).bind fun (x37 : List (List UInt8)) => gd (fitsB 24 x6.length) ((slI x7 0 x35).bind fun (x39 : List (List UInt8)) => gd (fitsB 24 (x6 ++ x39).length) ((osmosislaw5_same x37 (x6 ++ x39)).bind fun (x41 : Bool) => cond x41 ((disk_Disk_Sync x36.1 x36.2).bind fun (x42 : Int × Int) => some (x42.1 == 0)) (some false))))))
def out_osmosislaw5_WalCrash (synced : List (List UInt8)) (tail : List (List UInt8)) (keep : Int) (r : Bool) : AV × WH := ((.bool r), [])

theorem s_osmosislaw5_WalCrash (d : Nat) {synced : List (List UInt8)} {tail : List (List UInt8)} {keep : Int} {r : Bool} (h : osmosislaw5_WalCrash synced tail keep = some r) : Spec (wcalls atab (d + 9)) 9 [(l_LB synced), (l_LB tail), (.int .i64 keep)] [] (out_osmosislaw5_WalCrash synced tail keep r).1 (out_osmosislaw5_WalCrash synced tail keep r).2 := by
  obtain ⟨x1, hx1⟩ := wx (disk_New)
  obtain ⟨x2, hx2⟩ := wx (wal_Open x1)
  obtain ⟨x4, hx4⟩ := wx (osmosislaw5_WalCrash_J0 synced tail keep x2)
  obtain ⟨x6, hx6⟩ := wx (osmosislaw5_some synced)
  obtain ⟨x7, hx7⟩ := wx (osmosislaw5_some tail)
  obtain ⟨x8, hx8⟩ := wx (wal_Log_Add x6 x2.1 x2.2)
  obtain ⟨x9, hx9⟩ := wx (disk_Disk_Sync x2.1 x8.2)
  obtain ⟨x26, hx26⟩ := wx (osmosislaw5_WalCrash_L1 x7 x9 keep x6 (0, [], x8.2))
  obtain ⟨x28, hx28⟩ := wx (disk_Disk_Size x9.2 ((getR x26).2))
  obtain ⟨x29, hx29⟩ := wx (disk_Disk_Synced x9.2 ((getR x26).2))
  obtain ⟨x30, hx30⟩ := wx (osmosishand_Pick keep (IntKind.i64.wrap ((IntKind.i64.wrap (x28 - x29)) + 1)))
  obtain ⟨x31, hx31⟩ := wx (disk_Disk_Crash x30 x9.2 ((getR x26).2))
  obtain ⟨x35, hx35⟩ := wx (osmosislaw5_WalCrash_L2 x26 x30 x6 x7 x31 0)
  obtain ⟨x36, hx36⟩ := wx (wal_Open_2 x31.2.1 x31.2.2)
  obtain ⟨x37, hx37⟩ := wx (wal_Log_Records x36.1 x36.2)
  obtain ⟨x39, hx39⟩ := wx (slI x7 0 x35)
  obtain ⟨x41, hx41⟩ := wx (osmosislaw5_same x37 (x6 ++ x39))
  obtain ⟨x42, hx42⟩ := wx (disk_Disk_Sync x36.1 x36.2)
  have e : ∀ C : ACalls, wBody C (fun _ => none) KK WF9 [(l_LB synced), (l_LB tail), (.int .i64 keep)] [] (.call [] (some false) [] (.ptr (some (0, 0))) [(some (.cells [(.slice none 1 0 0 true), (.int .i64 x1)] false false))] (.call [] none [] (.ptr (some (1, 0))) [(some (.cells [(.acc 2 0 1 x2.2.length true), (.int .i64 x2.1)] false false)), (some (.cells [(.ptr (some (0, 0)))] false false)), (some (.cells (F_B x2.2) false true))] (.ite (isL x4) (.jn [0, 1, 2, 7, 8] [none, none, none, none, none] [] [] .ret [(6, (.bool false))] [] (.fin (some false) [] none)) (.jn [0, 1, 2, 7, 8] [none, none, none, none, none] [] [] .normal [(0, (l_LB synced)), (1, (l_LB tail)), (2, (.int .i64 keep)), (7, (.ptr (some (0, 0)))), (8, (.ptr (some (1, 0))))] [(some (.cells [(.acc 2 0 1 x2.2.length true), (.int .i64 x2.1)] false false)), (some (.cells [(.ptr (some (0, 0)))] false false)), (some (.cells (F_B x2.2) false true))] (.call [] (some false) [] (l_LB x6) [] (.call [] (some false) [] (l_LB x7) [] (.call [] none [] (.bool x8.1) [(some (.cells [(.ptr (some (1, 0)))] false false)), (some (.cells [(.acc 3 0 1 x8.2.length true), (.int .i64 x2.1)] false false)), none, (some (.cells (F_B x8.2) false true))] (.br 36 (.fin (some false) [] none) (.call [] none [] (.int .i64 x9.1) [(some (.cells [(.acc 1 0 1 x8.2.length true), (.int .i64 x9.2)] false false)), (some (.cells (F_B x8.2) false true))] (.ite (isL x26) (.lp [none, none, none, none, none, (some true), none, none, none] [] [] .ret [(6, (.bool false))] [] (.fin (some false) [] none)) (.lp [none, none, none, none, none, (some true), none, none, none] [] [] (.exit 0) [(2, (.int .i64 keep)), (7, (.ptr (some (0, 0)))), (8, (.ptr (some (1, 0)))), (9, (l_LB x6)), (10, (l_LB x7)), (11, (.acc 2 0 1 (((getR x26).1).length) true))] [(some (.cells [(.acc 3 0 1 (((getR x26).2).length) true), (.int .i64 x9.2)] false false)), (some (.cells [(.ptr (some (0, 0)))] false false)), (some (.cells (F_I ((getR x26).1)) false true)), (some (.cells (F_B ((getR x26).2)) false true))] (.call [] none [] (.int .i64 x28) [(some (.cells [(.acc 1 0 1 (((getR x26).2).length) true), (.int .i64 x9.2)] false false)), (some (.cells (F_B ((getR x26).2)) false true))] (.call [] none [] (.int .i64 x29) [(some (.cells [(.acc 1 0 1 (((getR x26).2).length) true), (.int .i64 x9.2)] false false)), (some (.cells (F_B ((getR x26).2)) false true))] (.cb [] [] (.int .i64 x30) (.call [] none [] (.int .i64 x31.1) [(some (.cells [(.acc 2 0 1 x31.2.2.length true), (.int .i64 x31.2.1)] false false)), none, (some (.cells (F_B x31.2.2) false true))] (.lp [none, none, none, none, none, none] [] [] (.exit 2) [(7, (.ptr (some (0, 0)))), (9, (l_LB x6)), (10, (l_LB x7)), (14, (.int .i64 x35))] [(some (.cells [(.acc 1 0 1 x31.2.2.length true), (.int .i64 x31.2.1)] false false)), (some (.cells (F_B x31.2.2) false true))] (.call [] none [] (.ptr (some (2, 0))) [(some (.cells [(.acc 3 0 1 x36.2.length true), (.int .i64 x36.1)] false false)), none, (some (.cells [(.ptr (some (0, 0)))] false false)), (some (.cells (F_B x36.2) false true))] (.call [] none [] (l_LB x37) [(some (.cells [(.ptr (some (1, 0)))] false false)), (some (.cells [(.acc 2 0 1 x36.2.length true), (.int .i64 x36.1)] false false)), (some (.cells (F_B x36.2) false true))] (.ap 111 x6.length (F_LB x6) (.v 114 (l_LB x39) (.ap 115 (x6 ++ x39).length (F_LB (x6 ++ x39)) (.cb [] [] (.bool x41) (.br 118 (.call [] none [] (.int .i64 x42.1) [(some (.cells [(.acc 1 0 1 x36.2.length true), (.int .i64 x42.2)] false false)), (some (.cells (F_B x36.2) false true))] (.fin (some false) [] none)) (.fin (some false) [] none)))))))))))))))))))))))) (out_osmosislaw5_WalCrash synced tail keep r).1 (out_osmosislaw5_WalCrash synced tail keep r).2 = (3 = 3 ∧ 3 ≤ 126 ∧ (Spec C 30 [] [] (.ptr (some (0, 0))) [(some (.cells [(.slice none 1 0 0 true), (.int .i64 x1)] false false))] ∧ (0 ≤ 1 ∧ (Spec C 31 [(.ptr (some (0, 0)))] [(some (.cells [(.slice none 1 0 0 true), (.int .i64 x1)] false false))] (.ptr (some (1, 0))) [(some (.cells [(.acc 2 0 1 x2.2.length true), (.int .i64 x2.1)] false false)), (some (.cells [(.ptr (some (0, 0)))] false false)), (some (.cells (F_B x2.2) false true))] ∧ (1 ≤ 3 ∧ (((isL x4) = true → (RunS (bexec C KK 126 WJ9_bbba) 0 [(0, (l_LB synced)), (1, (l_LB tail)), (2, (.int .i64 keep)), (7, (.ptr (some (0, 0)))), (8, (.ptr (some (1, 0))))] [(some (.cells [(.acc 2 0 1 x2.2.length true), (.int .i64 x2.1)] false false)), (some (.cells [(.ptr (some (0, 0)))] false false)), (some (.cells (F_B x2.2) false true))] .ret [(6, (.bool false))] [] ∧ lff (out_osmosislaw5_WalCrash synced tail keep) false r)) ∧ ((isL x4) = false → (RunS (bexec C KK 126 WJ9_bbba) 0 [(0, (l_LB synced)), (1, (l_LB tail)), (2, (.int .i64 keep)), (7, (.ptr (some (0, 0)))), (8, (.ptr (some (1, 0))))] [(some (.cells [(.acc 2 0 1 x2.2.length true), (.int .i64 x2.1)] false false)), (some (.cells [(.ptr (some (0, 0)))] false false)), (some (.cells (F_B x2.2) false true))] .normal [(0, (l_LB synced)), (1, (l_LB tail)), (2, (.int .i64 keep)), (7, (.ptr (some (0, 0)))), (8, (.ptr (some (1, 0))))] [(some (.cells [(.acc 2 0 1 x2.2.length true), (.int .i64 x2.1)] false false)), (some (.cells [(.ptr (some (0, 0)))] false false)), (some (.cells (F_B x2.2) false true))] ∧ (Spec C 33 [(l_LB synced)] [] (l_LB x6) [] ∧ (0 ≤ 0 ∧ (Spec C 33 [(l_LB tail)] [] (l_LB x7) [] ∧ (0 ≤ 0 ∧ (Spec C 35 [(.ptr (some (0, 0))), (l_LB x6)] [(some (.cells [(.ptr (some (1, 0)))] false false)), (some (.cells [(.acc 2 0 1 x2.2.length true), (.int .i64 x2.1)] false false)), (some (.cells (F_B x2.2) false true))] (.bool x8.1) [(some (.cells [(.ptr (some (1, 0)))] false false)), (some (.cells [(.acc 3 0 1 x8.2.length true), (.int .i64 x2.1)] false false)), none, (some (.cells (F_B x8.2) false true))] ∧ (3 ≤ 4 ∧ (((!x8.1) = true → lff (out_osmosislaw5_WalCrash synced tail keep) false r) ∧ ((!x8.1) = false → (Spec C 38 [(.ptr (some (0, 0)))] [(some (.cells [(.acc 1 0 1 x8.2.length true), (.int .i64 x2.1)] false false)), (some (.cells (F_B x8.2) false true))] (.int .i64 x9.1) [(some (.cells [(.acc 1 0 1 x8.2.length true), (.int .i64 x9.2)] false false)), (some (.cells (F_B x8.2) false true))] ∧ (2 ≤ 2 ∧ (((isL x26) = true → (RunS (bloop (bexec C KK 126 WB9_0) [2, 7, 8, 9, 10, 11, 42, 43, 44] KK) 0 [(2, (.int .i64 keep)), (7, (.ptr (some (0, 0)))), (8, (.ptr (some (1, 0)))), (9, (l_LB x6)), (10, (l_LB x7)), (11, (.acc 2 0 1 0 true)), (42, (l_LB x7)), (43, (.int .i64 (x7.length : Int))), (44, (.int .i64 0))] [(some (.cells [(.acc 3 0 1 x8.2.length true), (.int .i64 x9.2)] false false)), (some (.cells [(.ptr (some (0, 0)))] false false)), (some (.cells (F_I []) false true)), (some (.cells (F_B x8.2) false true))] .ret [(6, (.bool false))] [] ∧ lff (out_osmosislaw5_WalCrash synced tail keep) false r)) ∧ ((isL x26) = false → (RunS (bloop (bexec C KK 126 WB9_0) [2, 7, 8, 9, 10, 11, 42, 43, 44] KK) 0 [(2, (.int .i64 keep)), (7, (.ptr (some (0, 0)))), (8, (.ptr (some (1, 0)))), (9, (l_LB x6)), (10, (l_LB x7)), (11, (.acc 2 0 1 0 true)), (42, (l_LB x7)), (43, (.int .i64 (x7.length : Int))), (44, (.int .i64 0))] [(some (.cells [(.acc 3 0 1 x8.2.length true), (.int .i64 x9.2)] false false)), (some (.cells [(.ptr (some (0, 0)))] false false)), (some (.cells (F_I []) false true)), (some (.cells (F_B x8.2) false true))] (.exit 0) [(2, (.int .i64 keep)), (7, (.ptr (some (0, 0)))), (8, (.ptr (some (1, 0)))), (9, (l_LB x6)), (10, (l_LB x7)), (11, (.acc 2 0 1 (((getR x26).1).length) true))] [(some (.cells [(.acc 3 0 1 (((getR x26).2).length) true), (.int .i64 x9.2)] false false)), (some (.cells [(.ptr (some (0, 0)))] false false)), (some (.cells (F_I ((getR x26).1)) false true)), (some (.cells (F_B ((getR x26).2)) false true))] ∧ (Spec C 39 [(.ptr (some (0, 0)))] [(some (.cells [(.acc 1 0 1 (((getR x26).2).length) true), (.int .i64 x9.2)] false false)), (some (.cells (F_B ((getR x26).2)) false true))] (.int .i64 x28) [(some (.cells [(.acc 1 0 1 (((getR x26).2).length) true), (.int .i64 x9.2)] false false)), (some (.cells (F_B ((getR x26).2)) false true))] ∧ (2 ≤ 2 ∧ (Spec C 40 [(.ptr (some (0, 0)))] [(some (.cells [(.acc 1 0 1 (((getR x26).2).length) true), (.int .i64 x9.2)] false false)), (some (.cells (F_B ((getR x26).2)) false true))] (.int .i64 x29) [(some (.cells [(.acc 1 0 1 (((getR x26).2).length) true), (.int .i64 x9.2)] false false)), (some (.cells (F_B ((getR x26).2)) false true))] ∧ (2 ≤ 2 ∧ (Spec C 28 [(.int .i64 keep), (.int .i64 (IntKind.i64.wrap ((IntKind.i64.wrap (x28 - x29)) + 1)))] [] (.int .i64 x30) [] ∧ (Spec C 41 [(.ptr (some (0, 0))), (.int .i64 x30)] [(some (.cells [(.acc 1 0 1 (((getR x26).2).length) true), (.int .i64 x9.2)] false false)), (some (.cells (F_B ((getR x26).2)) false true))] (.int .i64 x31.1) [(some (.cells [(.acc 2 0 1 x31.2.2.length true), (.int .i64 x31.2.1)] false false)), none, (some (.cells (F_B x31.2.2) false true))] ∧ (2 ≤ 3 ∧ (RunS (bloop (bexec C KK 126 WB9_1) [2, 7, 9, 10, 11, 14] KK) 0 [(2, (.int .i64 x30)), (7, (.ptr (some (0, 0)))), (9, (l_LB x6)), (10, (l_LB x7)), (11, (.acc 1 0 1 (((getR x26).1).length) true)), (14, (.int .i64 0))] [(some (.cells [(.acc 2 0 1 x31.2.2.length true), (.int .i64 x31.2.1)] false false)), (some (.cells (F_I ((getR x26).1)) false true)), (some (.cells (F_B x31.2.2) false true))] (.exit 2) [(7, (.ptr (some (0, 0)))), (9, (l_LB x6)), (10, (l_LB x7)), (14, (.int .i64 x35))] [(some (.cells [(.acc 1 0 1 x31.2.2.length true), (.int .i64 x31.2.1)] false false)), (some (.cells (F_B x31.2.2) false true))] ∧ (Spec C 31 [(.ptr (some (0, 0)))] [(some (.cells [(.acc 1 0 1 x31.2.2.length true), (.int .i64 x31.2.1)] false false)), (some (.cells (F_B x31.2.2) false true))] (.ptr (some (2, 0))) [(some (.cells [(.acc 3 0 1 x36.2.length true), (.int .i64 x36.1)] false false)), none, (some (.cells [(.ptr (some (0, 0)))] false false)), (some (.cells (F_B x36.2) false true))] ∧ (2 ≤ 4 ∧ (Spec C 36 [(.ptr (some (0, 0)))] [(some (.cells [(.ptr (some (1, 0)))] false false)), (some (.cells [(.acc 2 0 1 x36.2.length true), (.int .i64 x36.1)] false false)), (some (.cells (F_B x36.2) false true))] (l_LB x37) [(some (.cells [(.ptr (some (1, 0)))] false false)), (some (.cells [(.acc 2 0 1 x36.2.length true), (.int .i64 x36.1)] false false)), (some (.cells (F_B x36.2) false true))] ∧ (3 ≤ 3 ∧ (0 + x6.length = x6.length ∧ (F_LB [] ++ F_LB x6 = F_LB x6 ∧ (fitsB 24 x6.length = true ∧ (wP (.slice 1 (.c (l_LB x7)) none (some (.c (.int .i64 x35))) none) = some (l_LB x39) ∧ (x6.length + x39.length = (x6 ++ x39).length ∧ (F_LB x6 ++ F_LB x39 = F_LB (x6 ++ x39) ∧ (fitsB 24 (x6 ++ x39).length = true ∧ (Spec C 37 [(l_LB x37), (l_LB (x6 ++ x39))] [] (.bool x41) [] ∧ ((x41 = true → (Spec C 38 [(.ptr (some (0, 0)))] [(some (.cells [(.acc 1 0 1 x36.2.length true), (.int .i64 x36.1)] false false)), (some (.cells (F_B x36.2) false true))] (.int .i64 x42.1) [(some (.cells [(.acc 1 0 1 x36.2.length true), (.int .i64 x42.2)] false false)), (some (.cells (F_B x36.2) false true))] ∧ (2 ≤ 2 ∧ lff (out_osmosislaw5_WalCrash synced tail keep) (x42.1 == 0) r))) ∧ (x41 = false → lff (out_osmosislaw5_WalCrash synced tail keep) false r))))))))))))))))))))))))))))))))))))))))))) := fun C => by kernel_rfl
  refine spec_of (fun _ _ h => by cases h) rfl atab_9 WF9_ok ((e _).mpr ⟨rfl, by decide, ?_⟩)
  unfold osmosislaw5_WalCrash at h
  obtain ⟨q1, h⟩ := bget hx1 h
  refine ⟨s_disk_New (d + 7) q1, ?_⟩
  refine ⟨by decide, ?_⟩
  obtain ⟨q2, h⟩ := bget hx2 h
  refine ⟨s_wal_Open (d + 1) q2, ?_⟩
  refine ⟨by decide, ?_⟩
  obtain ⟨q4, h⟩ := bget hx4 h
  refine ⟨fun hb5 => ?_, fun hb5 => ?_⟩
  · have h := cond_t hb5 h
    refine ⟨by have h := s_osmosislaw5_WalCrash_J0 (d + 0) q4; rw [isL_t hb5] at h; exact h, ?_⟩
    exact lff_of h
  · have h := cond_f hb5 h
    refine ⟨by have h := s_osmosislaw5_WalCrash_J0 (d + 0) q4; rw [isL_f hb5] at h; exact h, ?_⟩
    obtain ⟨q6, h⟩ := bget hx6 h
    refine ⟨s_osmosislaw5_some (d + 6) q6, ?_⟩
    refine ⟨by decide, ?_⟩
    obtain ⟨q7, h⟩ := bget hx7 h
    refine ⟨s_osmosislaw5_some (d + 6) q7, ?_⟩
    refine ⟨by decide, ?_⟩
    obtain ⟨q8, h⟩ := bget hx8 h
    refine ⟨s_wal_Log_Add (d + 3) q8, ?_⟩
    refine ⟨by decide, ?_⟩
    refine ⟨fun hb => ?_, fun hb => ?_⟩
    · have h := cond_t hb h
      exact lff_of h
    · have h := cond_f hb h
      obtain ⟨q9, h⟩ := bget hx9 h
      refine ⟨s_disk_Disk_Sync (d + 7) q9, ?_⟩
      refine ⟨by decide, ?_⟩
      obtain ⟨q26, h⟩ := bget hx26 h
      refine ⟨fun hb27 => ?_, fun hb27 => ?_⟩
      · have h := cond_t hb27 h
        refine ⟨by have h := s_osmosislaw5_WalCrash_L1 (d + 3) q26; rw [isL_t hb27] at h; exact h, ?_⟩
        exact lff_of h
      · have h := cond_f hb27 h
        refine ⟨by have h := s_osmosislaw5_WalCrash_L1 (d + 3) q26; rw [isL_f hb27] at h; exact h, ?_⟩
        obtain ⟨q28, h⟩ := bget hx28 h
        refine ⟨s_disk_Disk_Size (d + 7) q28, ?_⟩
        refine ⟨by decide, ?_⟩
        obtain ⟨q29, h⟩ := bget hx29 h
        refine ⟨s_disk_Disk_Synced (d + 7) q29, ?_⟩
        refine ⟨by decide, ?_⟩
        obtain ⟨q30, h⟩ := bget hx30 h
        refine ⟨s_osmosishand_Pick (d + 7) q30, ?_⟩
        obtain ⟨q31, h⟩ := bget hx31 h
        refine ⟨s_disk_Disk_Crash (d + 7) q31, ?_⟩
        refine ⟨by decide, ?_⟩
        obtain ⟨q35, h⟩ := bget hx35 h
        refine ⟨s_osmosislaw5_WalCrash_L2 (d + 8) q35, ?_⟩
        obtain ⟨q36, h⟩ := bget hx36 h
        refine ⟨s_wal_Open_2 (d + 1) q36, ?_⟩
        refine ⟨by decide, ?_⟩
        obtain ⟨q37, h⟩ := bget hx37 h
        refine ⟨s_wal_Log_Records (d + 1) q37, ?_⟩
        refine ⟨by decide, ?_⟩
        obtain ⟨q38, h⟩ := gd_some h
        refine ⟨by simp, ?_⟩
        refine ⟨by first | rfl | simp [F_LB], ?_⟩
        refine ⟨q38, ?_⟩
        obtain ⟨q39, h⟩ := bget hx39 h
        refine ⟨wP_sl_h R_LB q39, ?_⟩
        obtain ⟨q40, h⟩ := gd_some h
        refine ⟨app_len _ _, ?_⟩
        refine ⟨(Row.app R_LB _ _).symm, ?_⟩
        refine ⟨q40, ?_⟩
        obtain ⟨q41, h⟩ := bget hx41 h
        refine ⟨s_osmosislaw5_same (d + 7) q41, ?_⟩
        refine ⟨fun hb => ?_, fun hb => ?_⟩
        · have h := cond_t hb h
          obtain ⟨q42, h⟩ := bget hx42 h
          refine ⟨s_disk_Disk_Sync (d + 7) q42, ?_⟩
          refine ⟨by decide, ?_⟩
          exact lff_of h
        · have h := cond_f hb h
          exact lff_of h

/- (*osmosis/wal.Log).Rewrite -/
def wal_Log_Rewrite (records : List (List UInt8)) (p_b1 : Int) (p_b2 : List UInt8) : Option (Bool × Int × List UInt8) :=
  (wal_long records).bind fun (x1 : Bool) => cond (!x1) ((frame_Lay [] records).bind fun (x2 : List UInt8) => (disk_Disk_Swap_2 x2 p_b1 p_b2).bind fun (x3 : Bool × Int × List UInt8) => some (x3.1, x3.2.1, x3.2.2)) (some (false, p_b1, p_b2))
def out_wal_Log_Rewrite (records : List (List UInt8)) (p_b1 : Int) (p_b2 : List UInt8) (r : Bool × Int × List UInt8) : AV × WH := ((.bool r.1), [(some (.cells [(.ptr (some (1, 0)))] false false)), (some (.cells [(.acc 3 0 1 r.2.2.length true), (.int .i64 r.2.1)] false false)), none, (some (.cells (F_B r.2.2) false true))])

theorem s_wal_Log_Rewrite (d : Nat) {records : List (List UInt8)} {p_b1 : Int} {p_b2 : List UInt8} {r : Bool × Int × List UInt8} (h : wal_Log_Rewrite records p_b1 p_b2 = some r) : Spec (wcalls atab (d + 5)) 42 [(.ptr (some (0, 0))), (l_LB records)] [(some (.cells [(.ptr (some (1, 0)))] false false)), (some (.cells [(.acc 2 0 1 p_b2.length true), (.int .i64 p_b1)] false false)), (some (.cells (F_B p_b2) false true))] (out_wal_Log_Rewrite records p_b1 p_b2 r).1 (out_wal_Log_Rewrite records p_b1 p_b2 r).2 := by
  obtain ⟨x1, hx1⟩ := wx (wal_long records)
  obtain ⟨x2, hx2⟩ := wx (frame_Lay [] records)
  obtain ⟨x3, hx3⟩ := wx (disk_Disk_Swap_2 x2 p_b1 p_b2)
  have e : ∀ C : ACalls, wBody C (fun _ => none) KK WF42 [(.ptr (some (0, 0))), (l_LB records)] [(some (.cells [(.ptr (some (1, 0)))] false false)), (some (.cells [(.acc 2 0 1 p_b2.length true), (.int .i64 p_b1)] false false)), (some (.cells (F_B p_b2) false true))] (.cb [] [] (.bool x1) (.br 8 (.call [] (some false) [] (l_B x2) [] (.call [] none [] (.bool x3.1) [(some (.cells [(.acc 2 0 1 x3.2.2.length true), (.int .i64 x3.2.1)] false false)), none, (some (.cells (F_B x3.2.2) false true))] (.fin (some false) [] (some true)))) (.fin (some false) [] (some true)))) (out_wal_Log_Rewrite records p_b1 p_b2 r).1 (out_wal_Log_Rewrite records p_b1 p_b2 r).2 = (2 = 2 ∧ 2 ≤ 17 ∧ (Spec C 92 [(l_LB records)] [] (.bool x1) [] ∧ (((!x1) = true → (Spec C 23 [(l_B []), (l_LB records)] [] (l_B x2) [] ∧ (0 ≤ 0 ∧ (Spec C 91 [(.ptr (some (0, 0))), (l_B x2)] [(some (.cells [(.acc 1 0 1 p_b2.length true), (.int .i64 p_b1)] false false)), (some (.cells (F_B p_b2) false true))] (.bool x3.1) [(some (.cells [(.acc 2 0 1 x3.2.2.length true), (.int .i64 x3.2.1)] false false)), none, (some (.cells (F_B x3.2.2) false true))] ∧ (2 ≤ 3 ∧ lff (out_wal_Log_Rewrite records p_b1 p_b2) (x3.1, x3.2.1, x3.2.2) r))))) ∧ ((!x1) = false → lff (out_wal_Log_Rewrite records p_b1 p_b2) (false, p_b1, p_b2) r)))) := fun C => by kernel_rfl
  refine spec_of (fun _ _ h => by cases h) rfl atab_42 WF42_ok ((e _).mpr ⟨rfl, by decide, ?_⟩)
  unfold wal_Log_Rewrite at h
  obtain ⟨q1, h⟩ := bget hx1 h
  refine ⟨s_wal_long (d + 0) q1, ?_⟩
  refine ⟨fun hb => ?_, fun hb => ?_⟩
  · have h := cond_t hb h
    obtain ⟨q2, h⟩ := bget hx2 h
    refine ⟨s_frame_Lay (d + 1) q2, ?_⟩
    refine ⟨by decide, ?_⟩
    obtain ⟨q3, h⟩ := bget hx3 h
    refine ⟨s_disk_Disk_Swap_2 (d + 2) q3, ?_⟩
    refine ⟨by decide, ?_⟩
    exact lff_of h
  · have h := cond_f hb h
    exact lff_of h

end Go.Proofs.Ytachollgbplikaa
