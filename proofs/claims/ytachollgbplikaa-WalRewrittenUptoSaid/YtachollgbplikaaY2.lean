/- Functions as Lean functions, part 2. -/
import Derived.Test.YtachollgbplikaaXt
import Derived.Test.YtachollgbplikaaXs
import Derived.Test.YtachollgbplikaaY1
set_option linter.all false
set_option maxRecDepth 100000
namespace Go.Proofs.Ytachollgbplikaa
/- slices.IndexFunc[[][]byte,[]byte] -/
def st_slices_IndexFunc_byte_byte_2_L0 (a0 : List (List UInt8)) (s3 : Int) : List AV × WH := ([(l_LB a0), (.func 125 []), (.int .i64 (a0.length : Int)), (.int .i64 s3)], [])
def fin_slices_IndexFunc_byte_byte_2_L0 (a0 : List (List UInt8)) : Int ⊕ Unit → Ex × Fast × WH := fun
  | .inl e => (.ret, [(4, (.int .i64 e))], [])
  | .inr e => ((.exit 0), [], [])
abbrev rx_slices_IndexFunc_byte_byte_2_L0 (a0 : List (List UInt8)) := roundX [0, 1, 7, 8] (st_slices_IndexFunc_byte_byte_2_L0 a0) (fin_slices_IndexFunc_byte_byte_2_L0 a0)
def slices_IndexFunc_byte_byte_2_L0_s (a0 : List (List UInt8)) (s3 : Int) : Option ((Int) ⊕ (Int ⊕ Unit)) :=
  cond (decide (s3 < (a0.length : Int))) ((getI a0 s3).bind fun (x4 : List UInt8) => (wal_long_1 x4).bind fun (x5 : Bool) => cond x5 (some (.inr (.inl s3))) (some (.inl (IntKind.i64.wrap (s3 + 1))))) (some (.inr (.inr ())))
def slices_IndexFunc_byte_byte_2_L0 (a0 : List (List UInt8)) (s3 : Int) : Option (Int ⊕ Unit) := loopX (slices_IndexFunc_byte_byte_2_L0_s a0) KK s3
theorem b_slices_IndexFunc_byte_byte_2_L0 (d : Nat) {a0 : List (List UInt8)} {s3 : Int} {r : (Int) ⊕ (Int ⊕ Unit)} (h : slices_IndexFunc_byte_byte_2_L0_s a0 s3 = some r) : RunX (bexec (wcalls atab (d + 1)) KK 19 WB135_0) 0 (inL [0, 1, 7, 8] (st_slices_IndexFunc_byte_byte_2_L0 a0 s3)) (rx_slices_IndexFunc_byte_byte_2_L0 a0 r) := by
  obtain ⟨x4, hx4⟩ := wx (getI a0 s3)
  obtain ⟨x5, hx5⟩ := wx (wal_long_1 x4)
  have e : ∀ C : ACalls, wCode C (fun _ => none) KK 19 0 WB135_0 (inL [0, 1, 7, 8] (st_slices_IndexFunc_byte_byte_2_L0 a0 s3)).1 (inL [0, 1, 7, 8] (st_slices_IndexFunc_byte_byte_2_L0 a0 s3)).2 (.br 9 (.v 14 (.elem ([(l_B x4)] ++ F_LB (a0.drop (s3.toNat + 1)))) (.cb [] [] (.bool x5) (.br 16 (.en [4] [none] [] []) (.en [0, 1, 7, 8] [none, none, none, none] [] [])))) (.en [] [] [] [])) (rx_slices_IndexFunc_byte_byte_2_L0 a0 r) = (((decide (s3 < (a0.length : Int))) = true → (wP (.idxSlice 1 (.c (l_LB a0)) (.c (.int .i64 s3))) = some (.elem ([(l_B x4)] ++ F_LB (a0.drop (s3.toNat + 1)))) ∧ (Spec C 125 [(l_B x4)] [] (.bool x5) [] ∧ ((x5 = true → lfe (rx_slices_IndexFunc_byte_byte_2_L0 a0) (.inr (.inl s3)) r) ∧ (x5 = false → lfe (rx_slices_IndexFunc_byte_byte_2_L0 a0) (.inl (IntKind.i64.wrap (s3 + 1))) r))))) ∧ ((decide (s3 < (a0.length : Int))) = false → lfe (rx_slices_IndexFunc_byte_byte_2_L0 a0) (.inr (.inr ())) r)) := fun C => by kernel_rfl
  refine runS_of (fun _ _ h => by cases h) WB135_0_ok (Nat.le_of_ble_eq_true rfl) ((e _).mpr ?_)
  unfold slices_IndexFunc_byte_byte_2_L0_s at h
  refine ⟨fun hb => ?_, fun hb => ?_⟩
  · have h := cond_t hb h
    obtain ⟨q4, h⟩ := bget hx4 h
    refine ⟨wP_idx R_LB q4, ?_⟩
    obtain ⟨q5, h⟩ := bget hx5 h
    refine ⟨s_wal_long_1 (d + 0) q5, ?_⟩
    refine ⟨fun hb => ?_, fun hb => ?_⟩
    · have h := cond_t hb h
      exact lfe_of h
    · have h := cond_f hb h
      exact lfe_of h
  · have h := cond_f hb h
    exact lfe_of h
theorem s_slices_IndexFunc_byte_byte_2_L0 (d : Nat) {a0 : List (List UInt8)} {s3 : Int} {r : Int ⊕ Unit} (h : slices_IndexFunc_byte_byte_2_L0 a0 s3 = some r) : RunX (bloop (bexec (wcalls atab (d + 1)) KK 19 WB135_0) [0, 1, 7, 8] KK) 0 (inL [0, 1, 7, 8] (st_slices_IndexFunc_byte_byte_2_L0 a0 s3)) (fin_slices_IndexFunc_byte_byte_2_L0 a0 r) :=
  loop_of (st := st_slices_IndexFunc_byte_byte_2_L0 a0) (fin := fin_slices_IndexFunc_byte_byte_2_L0 a0) (step := slices_IndexFunc_byte_byte_2_L0_s a0) (fun e => by rcases e with e | e <;> (intro h; cases h)) (fun s x h => b_slices_IndexFunc_byte_byte_2_L0 d h) KK s3 r h

def slices_IndexFunc_byte_byte_2 (a0 : List (List UInt8)) : Option (Int) :=
  (slices_IndexFunc_byte_byte_2_L0 a0 0).bind fun (x6 : Int ⊕ Unit) => cond (isL x6) (some (getL x6)) (some (-1))
def out_slices_IndexFunc_byte_byte_2 (a0 : List (List UInt8)) (r : Int) : AV × WH := ((.int .i64 r), [])

theorem s_slices_IndexFunc_byte_byte_2 (d : Nat) {a0 : List (List UInt8)} {r : Int} (h : slices_IndexFunc_byte_byte_2 a0 = some r) : Spec (wcalls atab (d + 2)) 135 [(l_LB a0), (.func 125 [])] [] (out_slices_IndexFunc_byte_byte_2 a0 r).1 (out_slices_IndexFunc_byte_byte_2 a0 r).2 := by
  obtain ⟨x6, hx6⟩ := wx (slices_IndexFunc_byte_byte_2_L0 a0 0)
  have e : ∀ C : ACalls, wBody C (fun _ => none) KK WF135 [(l_LB a0), (.func 125 [])] [] (.ite (isL x6) (.lp [none, none, none, none] [] [] .ret [(4, (.int .i64 (getL x6)))] [] (.fin (some false) [] none)) (.lp [none, none, none, none] [] [] (.exit 0) [] [] (.fin (some false) [] none))) (out_slices_IndexFunc_byte_byte_2 a0 r).1 (out_slices_IndexFunc_byte_byte_2 a0 r).2 = (2 = 2 ∧ 2 ≤ 19 ∧ (((isL x6) = true → (RunS (bloop (bexec C KK 19 WB135_0) [0, 1, 7, 8] KK) 0 [(0, (l_LB a0)), (1, (.func 125 [])), (7, (.int .i64 (a0.length : Int))), (8, (.int .i64 0))] [] .ret [(4, (.int .i64 (getL x6)))] [] ∧ lff (out_slices_IndexFunc_byte_byte_2 a0) (getL x6) r)) ∧ ((isL x6) = false → (RunS (bloop (bexec C KK 19 WB135_0) [0, 1, 7, 8] KK) 0 [(0, (l_LB a0)), (1, (.func 125 [])), (7, (.int .i64 (a0.length : Int))), (8, (.int .i64 0))] [] (.exit 0) [] [] ∧ lff (out_slices_IndexFunc_byte_byte_2 a0) (-1) r)))) := fun C => by kernel_rfl
  refine spec_of (fun _ _ h => by cases h) rfl atab_135 WF135_ok ((e _).mpr ⟨rfl, by decide, ?_⟩)
  unfold slices_IndexFunc_byte_byte_2 at h
  obtain ⟨q6, h⟩ := bget hx6 h
  refine ⟨fun hb7 => ?_, fun hb7 => ?_⟩
  · have h := cond_t hb7 h
    refine ⟨by have h := s_slices_IndexFunc_byte_byte_2_L0 (d + 0) q6; rw [isL_t hb7] at h; exact h, ?_⟩
    exact lff_of h
  · have h := cond_f hb7 h
    refine ⟨by have h := s_slices_IndexFunc_byte_byte_2_L0 (d + 0) q6; rw [isL_f hb7] at h; exact h, ?_⟩
    exact lff_of h

/- slices.ContainsFunc[[][]byte,[]byte] -/
def slices_ContainsFunc_byte_byte (a0 : List (List UInt8)) : Option (Bool) :=
  (slices_IndexFunc_byte_byte_2 a0).bind fun (x1 : Int) => some (decide (x1 ≥ 0))
def out_slices_ContainsFunc_byte_byte (a0 : List (List UInt8)) (r : Bool) : AV × WH := ((.bool r), [])

theorem s_slices_ContainsFunc_byte_byte (d : Nat) {a0 : List (List UInt8)} {r : Bool} (h : slices_ContainsFunc_byte_byte a0 = some r) : Spec (wcalls atab (d + 3)) 124 [(l_LB a0), (.func 125 [])] [] (out_slices_ContainsFunc_byte_byte a0 r).1 (out_slices_ContainsFunc_byte_byte a0 r).2 := by
  obtain ⟨x1, hx1⟩ := wx (slices_IndexFunc_byte_byte_2 a0)
  have e : ∀ C : ACalls, wBody C (fun _ => none) KK WF124 [(l_LB a0), (.func 125 [])] [] (.cb [] [] (.int .i64 x1) (.fin (some false) [] none)) (out_slices_ContainsFunc_byte_byte a0 r).1 (out_slices_ContainsFunc_byte_byte a0 r).2 = (2 = 2 ∧ 2 ≤ 9 ∧ (Spec C 135 [(l_LB a0), (.func 125 [])] [] (.int .i64 x1) [] ∧ lff (out_slices_ContainsFunc_byte_byte a0) (decide (x1 ≥ 0)) r)) := fun C => by kernel_rfl
  refine spec_of (fun _ _ h => by cases h) rfl atab_124 WF124_ok ((e _).mpr ⟨rfl, by decide, ?_⟩)
  unfold slices_ContainsFunc_byte_byte at h
  obtain ⟨q1, h⟩ := bget hx1 h
  refine ⟨s_slices_IndexFunc_byte_byte_2 (d + 0) q1, ?_⟩
  exact lff_of h

/- osmosis/wal.long -/
def wal_long (records : List (List UInt8)) : Option (Bool) :=
  (slices_ContainsFunc_byte_byte records).bind fun (x1 : Bool) => some x1
def out_wal_long (records : List (List UInt8)) (r : Bool) : AV × WH := ((.bool r), [])

theorem s_wal_long (d : Nat) {records : List (List UInt8)} {r : Bool} (h : wal_long records = some r) : Spec (wcalls atab (d + 4)) 92 [(l_LB records)] [] (out_wal_long records r).1 (out_wal_long records r).2 := by
  obtain ⟨x1, hx1⟩ := wx (slices_ContainsFunc_byte_byte records)
  have e : ∀ C : ACalls, wBody C (fun _ => none) KK WF92 [(l_LB records)] [] (.cb [] [] (.bool x1) (.fin (some false) [] none)) (out_wal_long records r).1 (out_wal_long records r).2 = (1 = 1 ∧ 1 ≤ 5 ∧ (Spec C 124 [(l_LB records), (.func 125 [])] [] (.bool x1) [] ∧ lff (out_wal_long records) x1 r)) := fun C => by kernel_rfl
  refine spec_of (fun _ _ h => by cases h) rfl atab_92 WF92_ok ((e _).mpr ⟨rfl, by decide, ?_⟩)
  unfold wal_long at h
  obtain ⟨q1, h⟩ := bget hx1 h
  refine ⟨s_slices_ContainsFunc_byte_byte (d + 0) q1, ?_⟩
  exact lff_of h

/- (*osmosis/disk.Disk).Append -/
def disk_Disk_Append (parts : List (List UInt8)) (p_d : Int) (p_b1 : List UInt8) : Option (Bool × List UInt8) :=
  (slices_Concat_byte_byte parts).bind fun (x1 : List UInt8) => cond (decide ((IntKind.i64.wrap ((p_b1.length : Int) + (x1.length : Int))) > 65536)) (some (false, p_b1)) (gd (fitsB 1 (p_b1 ++ x1).length) (some (true, (p_b1 ++ x1))))
def out_disk_Disk_Append (parts : List (List UInt8)) (p_d : Int) (p_b1 : List UInt8) (r : Bool × List UInt8) : AV × WH := ((.bool r.1), [(some (.cells [(.acc 2 0 1 r.2.length true), (.int .i64 p_d)] false false)), none, (some (.cells (F_B r.2) false true))])

theorem s_disk_Disk_Append (d : Nat) {parts : List (List UInt8)} {p_d : Int} {p_b1 : List UInt8} {r : Bool × List UInt8} (h : disk_Disk_Append parts p_d p_b1 = some r) : Spec (wcalls atab (d + 3)) 43 [(.ptr (some (0, 0))), (l_LB parts)] [(some (.cells [(.acc 1 0 1 p_b1.length true), (.int .i64 p_d)] false false)), (some (.cells (F_B p_b1) false true))] (out_disk_Disk_Append parts p_d p_b1 r).1 (out_disk_Disk_Append parts p_d p_b1 r).2 := by
  obtain ⟨x1, hx1⟩ := wx (slices_Concat_byte_byte parts)
  have e : ∀ C : ACalls, wBody C (fun _ => none) KK WF43 [(.ptr (some (0, 0))), (l_LB parts)] [(some (.cells [(.acc 1 0 1 p_b1.length true), (.int .i64 p_d)] false false)), (some (.cells (F_B p_b1) false true))] (.call [] (some false) [] (l_B x1) [] (.br 16 (.fin (some false) [] (some true)) (.ap 23 (p_b1 ++ x1).length (F_B (p_b1 ++ x1)) (.st none (.fin (some false) [] (some true)))))) (out_disk_Disk_Append parts p_d p_b1 r).1 (out_disk_Disk_Append parts p_d p_b1 r).2 = (2 = 2 ∧ 2 ≤ 26 ∧ (Spec C 81 [(l_LB parts)] [] (l_B x1) [] ∧ (0 ≤ 0 ∧ (((decide ((IntKind.i64.wrap ((p_b1.length : Int) + (x1.length : Int))) > 65536)) = true → lff (out_disk_Disk_Append parts p_d p_b1) (false, p_b1) r) ∧ ((decide ((IntKind.i64.wrap ((p_b1.length : Int) + (x1.length : Int))) > 65536)) = false → (p_b1.length + x1.length = (p_b1 ++ x1).length ∧ (F_B p_b1 ++ F_B x1 = F_B (p_b1 ++ x1) ∧ (fitsB 1 (p_b1 ++ x1).length = true ∧ lff (out_disk_Disk_Append parts p_d p_b1) (true, (p_b1 ++ x1)) r)))))))) := fun C => by kernel_rfl
  refine spec_of (fun _ _ h => by cases h) rfl atab_43 WF43_ok ((e _).mpr ⟨rfl, by decide, ?_⟩)
  unfold disk_Disk_Append at h
  obtain ⟨q1, h⟩ := bget hx1 h
  refine ⟨s_slices_Concat_byte_byte (d + 0) q1, ?_⟩
  refine ⟨by decide, ?_⟩
  refine ⟨fun hb => ?_, fun hb => ?_⟩
  · have h := cond_t hb h
    exact lff_of h
  · have h := cond_f hb h
    obtain ⟨q2, h⟩ := gd_some h
    refine ⟨app_len _ _, ?_⟩
    refine ⟨(Row.app R_B _ _).symm, ?_⟩
    refine ⟨q2, ?_⟩
    exact lff_of h

/- (*osmosis/wal.Log).Add -/
def wal_Log_Add (records : List (List UInt8)) (p_b1 : Int) (p_b2 : List UInt8) : Option (Bool × List UInt8) :=
  (wal_long records).bind fun (x1 : Bool) => cond (!x1) ((frame_Lay [] records).bind fun (x2 : List UInt8) => (disk_Disk_Append [x2] p_b1 p_b2).bind fun (x3 : Bool × List UInt8) => some (x3.1, x3.2)) (some (false, p_b2))
def out_wal_Log_Add (records : List (List UInt8)) (p_b1 : Int) (p_b2 : List UInt8) (r : Bool × List UInt8) : AV × WH := ((.bool r.1), [(some (.cells [(.ptr (some (1, 0)))] false false)), (some (.cells [(.acc 3 0 1 r.2.length true), (.int .i64 p_b1)] false false)), none, (some (.cells (F_B r.2) false true))])

theorem s_wal_Log_Add (d : Nat) {records : List (List UInt8)} {p_b1 : Int} {p_b2 : List UInt8} {r : Bool × List UInt8} (h : wal_Log_Add records p_b1 p_b2 = some r) : Spec (wcalls atab (d + 5)) 35 [(.ptr (some (0, 0))), (l_LB records)] [(some (.cells [(.ptr (some (1, 0)))] false false)), (some (.cells [(.acc 2 0 1 p_b2.length true), (.int .i64 p_b1)] false false)), (some (.cells (F_B p_b2) false true))] (out_wal_Log_Add records p_b1 p_b2 r).1 (out_wal_Log_Add records p_b1 p_b2 r).2 := by
  obtain ⟨x1, hx1⟩ := wx (wal_long records)
  obtain ⟨x2, hx2⟩ := wx (frame_Lay [] records)
  obtain ⟨x3, hx3⟩ := wx (disk_Disk_Append [x2] p_b1 p_b2)
  have e : ∀ C : ACalls, wBody C (fun _ => none) KK WF35 [(.ptr (some (0, 0))), (l_LB records)] [(some (.cells [(.ptr (some (1, 0)))] false false)), (some (.cells [(.acc 2 0 1 p_b2.length true), (.int .i64 p_b1)] false false)), (some (.cells (F_B p_b2) false true))] (.cb [] [] (.bool x1) (.br 8 (.call [] (some false) [] (l_B x2) [] (.call [] none [] (.bool x3.1) [(some (.cells [(.acc 2 0 1 x3.2.length true), (.int .i64 p_b1)] false false)), none, (some (.cells (F_B x3.2) false true))] (.fin (some false) [] (some true)))) (.fin (some false) [] (some true)))) (out_wal_Log_Add records p_b1 p_b2 r).1 (out_wal_Log_Add records p_b1 p_b2 r).2 = (2 = 2 ∧ 2 ≤ 18 ∧ (Spec C 92 [(l_LB records)] [] (.bool x1) [] ∧ (((!x1) = true → (Spec C 23 [(l_B []), (l_LB records)] [] (l_B x2) [] ∧ (0 ≤ 0 ∧ (Spec C 43 [(.ptr (some (0, 0))), (l_LB [x2])] [(some (.cells [(.acc 1 0 1 p_b2.length true), (.int .i64 p_b1)] false false)), (some (.cells (F_B p_b2) false true))] (.bool x3.1) [(some (.cells [(.acc 2 0 1 x3.2.length true), (.int .i64 p_b1)] false false)), none, (some (.cells (F_B x3.2) false true))] ∧ (2 ≤ 3 ∧ lff (out_wal_Log_Add records p_b1 p_b2) (x3.1, x3.2) r))))) ∧ ((!x1) = false → lff (out_wal_Log_Add records p_b1 p_b2) (false, p_b2) r)))) := fun C => by kernel_rfl
  refine spec_of (fun _ _ h => by cases h) rfl atab_35 WF35_ok ((e _).mpr ⟨rfl, by decide, ?_⟩)
  unfold wal_Log_Add at h
  obtain ⟨q1, h⟩ := bget hx1 h
  refine ⟨s_wal_long (d + 0) q1, ?_⟩
  refine ⟨fun hb => ?_, fun hb => ?_⟩
  · have h := cond_t hb h
    obtain ⟨q2, h⟩ := bget hx2 h
    refine ⟨s_frame_Lay (d + 1) q2, ?_⟩
    refine ⟨by decide, ?_⟩
    obtain ⟨q3, h⟩ := bget hx3 h
    refine ⟨s_disk_Disk_Append (d + 1) q3, ?_⟩
    refine ⟨by decide, ?_⟩
    exact lff_of h
  · have h := cond_f hb h
    exact lff_of h

/- (*osmosis/disk.Disk).Sync -/
def disk_Disk_Sync (p_d : Int) (p_b1 : List UInt8) : Option (Int × Int) :=
  some ((IntKind.i64.wrap ((p_b1.length : Int) - p_d)), (p_b1.length : Int))
def out_disk_Disk_Sync (p_d : Int) (p_b1 : List UInt8) (r : Int × Int) : AV × WH := ((.int .i64 r.1), [(some (.cells [(.acc 1 0 1 p_b1.length true), (.int .i64 r.2)] false false)), (some (.cells (F_B p_b1) false true))])

theorem s_disk_Disk_Sync (d : Nat) {p_d : Int} {p_b1 : List UInt8} {r : Int × Int} (h : disk_Disk_Sync p_d p_b1 = some r) : Spec (wcalls atab (d + 1)) 38 [(.ptr (some (0, 0)))] [(some (.cells [(.acc 1 0 1 p_b1.length true), (.int .i64 p_d)] false false)), (some (.cells (F_B p_b1) false true))] (out_disk_Disk_Sync p_d p_b1 r).1 (out_disk_Disk_Sync p_d p_b1 r).2 := by
  have e : ∀ C : ACalls, wBody C (fun _ => none) KK WF38 [(.ptr (some (0, 0)))] [(some (.cells [(.acc 1 0 1 p_b1.length true), (.int .i64 p_d)] false false)), (some (.cells (F_B p_b1) false true))] (.st none (.fin (some false) [] none)) (out_disk_Disk_Sync p_d p_b1 r).1 (out_disk_Disk_Sync p_d p_b1 r).2 = (1 = 1 ∧ 1 ≤ 23 ∧ lff (out_disk_Disk_Sync p_d p_b1) ((IntKind.i64.wrap ((p_b1.length : Int) - p_d)), (p_b1.length : Int)) r) := fun C => by kernel_rfl
  refine spec_of (fun _ _ h => by cases h) rfl atab_38 WF38_ok ((e _).mpr ⟨rfl, by decide, ?_⟩)
  unfold disk_Disk_Sync at h
  exact lff_of h

/- (*osmosis/disk.Disk).Crash -/
def disk_Disk_Crash (keep : Int) (p_d : Int) (p_b1 : List UInt8) : Option (Int × Int × List UInt8) :=
  (slI p_b1 0 (IntKind.i64.wrap (p_d + (if (if (IntKind.i64.wrap ((p_b1.length : Int) - p_d)) < keep then (IntKind.i64.wrap ((p_b1.length : Int) - p_d)) else keep) > 0 then (if (IntKind.i64.wrap ((p_b1.length : Int) - p_d)) < keep then (IntKind.i64.wrap ((p_b1.length : Int) - p_d)) else keep) else 0)))).bind fun (x1 : List UInt8) => some ((if (if (IntKind.i64.wrap ((p_b1.length : Int) - p_d)) < keep then (IntKind.i64.wrap ((p_b1.length : Int) - p_d)) else keep) > 0 then (if (IntKind.i64.wrap ((p_b1.length : Int) - p_d)) < keep then (IntKind.i64.wrap ((p_b1.length : Int) - p_d)) else keep) else 0), (IntKind.i64.wrap (p_d + (if (if (IntKind.i64.wrap ((p_b1.length : Int) - p_d)) < keep then (IntKind.i64.wrap ((p_b1.length : Int) - p_d)) else keep) > 0 then (if (IntKind.i64.wrap ((p_b1.length : Int) - p_d)) < keep then (IntKind.i64.wrap ((p_b1.length : Int) - p_d)) else keep) else 0))), x1)
def out_disk_Disk_Crash (keep : Int) (p_d : Int) (p_b1 : List UInt8) (r : Int × Int × List UInt8) : AV × WH := ((.int .i64 r.1), [(some (.cells [(.acc 2 0 1 r.2.2.length true), (.int .i64 r.2.1)] false false)), none, (some (.cells (F_B r.2.2) false true))])

theorem s_disk_Disk_Crash (d : Nat) {keep : Int} {p_d : Int} {p_b1 : List UInt8} {r : Int × Int × List UInt8} (h : disk_Disk_Crash keep p_d p_b1 = some r) : Spec (wcalls atab (d + 1)) 41 [(.ptr (some (0, 0))), (.int .i64 keep)] [(some (.cells [(.acc 1 0 1 p_b1.length true), (.int .i64 p_d)] false false)), (some (.cells (F_B p_b1) false true))] (out_disk_Disk_Crash keep p_d p_b1 r).1 (out_disk_Disk_Crash keep p_d p_b1 r).2 := by
  obtain ⟨x1, hx1⟩ := wx (slI p_b1 0 (IntKind.i64.wrap (p_d + (if (if (IntKind.i64.wrap ((p_b1.length : Int) - p_d)) < keep then (IntKind.i64.wrap ((p_b1.length : Int) - p_d)) else keep) > 0 then (if (IntKind.i64.wrap ((p_b1.length : Int) - p_d)) < keep then (IntKind.i64.wrap ((p_b1.length : Int) - p_d)) else keep) else 0))))
  have e : ∀ C : ACalls, wBody C (fun _ => none) KK WF41 [(.ptr (some (0, 0))), (.int .i64 keep)] [(some (.cells [(.acc 1 0 1 p_b1.length true), (.int .i64 p_d)] false false)), (some (.cells (F_B p_b1) false true))] (.st none (.v 35 (.acc 1 0 1 x1.length false) (.st none (.fin (some false) [] (some true))))) (out_disk_Disk_Crash keep p_d p_b1 r).1 (out_disk_Disk_Crash keep p_d p_b1 r).2 = (2 = 2 ∧ 2 ≤ 39 ∧ (wP (.slice 1 (.c (.acc 1 0 1 p_b1.length true)) none (some (.c (.int .i64 (IntKind.i64.wrap (p_d + (if (if (IntKind.i64.wrap ((p_b1.length : Int) - p_d)) < keep then (IntKind.i64.wrap ((p_b1.length : Int) - p_d)) else keep) > 0 then (if (IntKind.i64.wrap ((p_b1.length : Int) - p_d)) < keep then (IntKind.i64.wrap ((p_b1.length : Int) - p_d)) else keep) else 0)))))) none) = some (.acc 1 0 1 x1.length false) ∧ (@Eq AV (.int .i64 (if (if (IntKind.i64.wrap ((p_b1.length : Int) - p_d)) < keep then (IntKind.i64.wrap ((p_b1.length : Int) - p_d)) else keep) > 0 then (if (IntKind.i64.wrap ((p_b1.length : Int) - p_d)) < keep then (IntKind.i64.wrap ((p_b1.length : Int) - p_d)) else keep) else 0)) (out_disk_Disk_Crash keep p_d p_b1 r).1 ∧ @Eq WH [(some (.cells [(.acc 2 0 1 x1.length true), (.int .i64 (IntKind.i64.wrap (p_d + (if (if (IntKind.i64.wrap ((p_b1.length : Int) - p_d)) < keep then (IntKind.i64.wrap ((p_b1.length : Int) - p_d)) else keep) > 0 then (if (IntKind.i64.wrap ((p_b1.length : Int) - p_d)) < keep then (IntKind.i64.wrap ((p_b1.length : Int) - p_d)) else keep) else 0))))] false false)), none, (some (.cells ((F_B p_b1).take (x1.length * 1)) false true))] (out_disk_Disk_Crash keep p_d p_b1 r).2))) := fun C => by kernel_rfl
  refine spec_of (fun _ _ h => by cases h) rfl atab_41 WF41_ok ((e _).mpr ⟨rfl, by decide, ?_⟩)
  unfold disk_Disk_Crash at h
  obtain ⟨q1, h⟩ := bget hx1 h
  refine ⟨wP_slA_h R_B q1, ?_⟩
  try rw [take_row R_B q1]
  try rw [part_row0 R_B q1]
  obtain rfl := Option.some.inj h
  refine ⟨?_, ?_⟩ <;> first | rfl | (simp only [out_disk_Disk_Crash, List.length_set, List.length_append, List.length_replicate, List.length_cons, List.length_nil, List.length_take, List.length_drop, Nat.add_zero, Nat.zero_add]; done) | simp [out_disk_Disk_Crash]

/- (*osmosis/disk.Disk).Bytes -/
def disk_Disk_Bytes_2 (p_d : Int) (p_b1 : List UInt8) : Option (List UInt8) :=
  gd (fitsB 1 p_b1.length) (some p_b1)
def out_disk_Disk_Bytes_2 (p_d : Int) (p_b1 : List UInt8) (r : List UInt8) : AV × WH := ((l_B r), [(some (.cells [(.acc 1 0 1 p_b1.length true), (.int .i64 p_d)] false false)), (some (.cells (F_B p_b1) false true))])

theorem s_disk_Disk_Bytes_2 (d : Nat) {p_d : Int} {p_b1 : List UInt8} {r : List UInt8} (h : disk_Disk_Bytes_2 p_d p_b1 = some r) : Spec (wcalls atab (d + 2)) 50 [(.ptr (some (0, 0)))] [(some (.cells [(.acc 1 0 1 p_b1.length true), (.int .i64 p_d)] false false)), (some (.cells (F_B p_b1) false true))] (out_disk_Disk_Bytes_2 p_d p_b1 r).1 (out_disk_Disk_Bytes_2 p_d p_b1 r).2 := by
  have e : ∀ C : ACalls, wBody C wB KK WF50 [(.ptr (some (0, 0)))] [(some (.cells [(.acc 1 0 1 p_b1.length true), (.int .i64 p_d)] false false)), (some (.cells (F_B p_b1) false true))] (.fin (some false) [] none) (out_disk_Disk_Bytes_2 p_d p_b1 r).1 (out_disk_Disk_Bytes_2 p_d p_b1 r).2 = (1 = 1 ∧ 1 ≤ 9 ∧ (fitsB 1 p_b1.length = true ∧ lff (out_disk_Disk_Bytes_2 p_d p_b1) p_b1 r)) := fun C => by kernel_rfl
  refine spec_of (wB_ok _) rfl atab_50 WF50_ok ((e _).mpr ⟨rfl, by decide, ?_⟩)
  unfold disk_Disk_Bytes_2 at h
  obtain ⟨q1, h⟩ := gd_some h
  refine ⟨q1, ?_⟩
  exact lff_of h

/- (*osmosis/disk.Disk).Swap -/
def disk_Disk_Swap_2 (p_b : List UInt8) (p_d : Int) (p_b1 : List UInt8) : Option (Bool × Int × List UInt8) :=
  cond (decide ((p_b.length : Int) > 65536)) (some (false, p_d, p_b1)) (gd (fitsB 1 p_b.length) (some (true, (p_b.length : Int), p_b)))
def out_disk_Disk_Swap_2 (p_b : List UInt8) (p_d : Int) (p_b1 : List UInt8) (r : Bool × Int × List UInt8) : AV × WH := ((.bool r.1), [(some (.cells [(.acc 2 0 1 r.2.2.length true), (.int .i64 r.2.1)] false false)), none, (some (.cells (F_B r.2.2) false true))])

theorem s_disk_Disk_Swap_2 (d : Nat) {p_b : List UInt8} {p_d : Int} {p_b1 : List UInt8} {r : Bool × Int × List UInt8} (h : disk_Disk_Swap_2 p_b p_d p_b1 = some r) : Spec (wcalls atab (d + 2)) 91 [(.ptr (some (0, 0))), (l_B p_b)] [(some (.cells [(.acc 1 0 1 p_b1.length true), (.int .i64 p_d)] false false)), (some (.cells (F_B p_b1) false true))] (out_disk_Disk_Swap_2 p_b p_d p_b1 r).1 (out_disk_Disk_Swap_2 p_b p_d p_b1 r).2 := by
  have e : ∀ C : ACalls, wBody C wB KK WF91 [(.ptr (some (0, 0))), (l_B p_b)] [(some (.cells [(.acc 1 0 1 p_b1.length true), (.int .i64 p_d)] false false)), (some (.cells (F_B p_b1) false true))] (.br 7 (.fin (some false) [] (some true)) (.st none (.st none (.kl [1] (.fin (some false) [] (some true)))))) (out_disk_Disk_Swap_2 p_b p_d p_b1 r).1 (out_disk_Disk_Swap_2 p_b p_d p_b1 r).2 = (2 = 2 ∧ 2 ≤ 18 ∧ (((decide ((p_b.length : Int) > 65536)) = true → lff (out_disk_Disk_Swap_2 p_b p_d p_b1) (false, p_d, p_b1) r) ∧ ((decide ((p_b.length : Int) > 65536)) = false → (fitsB 1 p_b.length = true ∧ lff (out_disk_Disk_Swap_2 p_b p_d p_b1) (true, (p_b.length : Int), p_b) r)))) := fun C => by kernel_rfl
  refine spec_of (wB_ok _) rfl atab_91 WF91_ok ((e _).mpr ⟨rfl, by decide, ?_⟩)
  unfold disk_Disk_Swap_2 at h
  refine ⟨fun hb => ?_, fun hb => ?_⟩
  · have h := cond_t hb h
    exact lff_of h
  · have h := cond_f hb h
    obtain ⟨q1, h⟩ := gd_some h
    refine ⟨q1, ?_⟩
    exact lff_of h

/- osmosis/wal.Open -/
def wal_Open_2 (p_d : Int) (p_b1 : List UInt8) : Option (Int × List UInt8) :=
  (disk_Disk_Bytes_2 p_d p_b1).bind fun (x1 : List UInt8) => (frame_Read x1).bind fun (x2 : List (List UInt8) × Int) => cond (decide (x2.2 < (x1.length : Int))) ((slI x1 0 x2.2).bind fun (x3 : List UInt8) => (disk_Disk_Swap_2 x3 p_d p_b1).bind fun (x4 : Bool × Int × List UInt8) => some (x4.2.1, x4.2.2)) (some (p_d, p_b1))
def out_wal_Open_2 (p_d : Int) (p_b1 : List UInt8) (r : Int × List UInt8) : AV × WH := ((.ptr (some (2, 0))), [(some (.cells [(.acc 3 0 1 r.2.length true), (.int .i64 r.1)] false false)), none, (some (.cells [(.ptr (some (0, 0)))] false false)), (some (.cells (F_B r.2) false true))])

theorem s_wal_Open_2 (d : Nat) {p_d : Int} {p_b1 : List UInt8} {r : Int × List UInt8} (h : wal_Open_2 p_d p_b1 = some r) : Spec (wcalls atab (d + 7)) 31 [(.ptr (some (0, 0)))] [(some (.cells [(.acc 1 0 1 p_b1.length true), (.int .i64 p_d)] false false)), (some (.cells (F_B p_b1) false true))] (out_wal_Open_2 p_d p_b1 r).1 (out_wal_Open_2 p_d p_b1 r).2 := by
  obtain ⟨x1, hx1⟩ := wx (disk_Disk_Bytes_2 p_d p_b1)
  obtain ⟨x2, hx2⟩ := wx (frame_Read x1)
  obtain ⟨x3, hx3⟩ := wx (slI x1 0 x2.2)
  obtain ⟨x4, hx4⟩ := wx (disk_Disk_Swap_2 x3 p_d p_b1)
  have e : ∀ C : ACalls, wBody C (fun _ => none) KK WF31 [(.ptr (some (0, 0)))] [(some (.cells [(.acc 1 0 1 p_b1.length true), (.int .i64 p_d)] false false)), (some (.cells (F_B p_b1) false true))] (.call [] none [] (l_B x1) [(some (.cells [(.acc 1 0 1 p_b1.length true), (.int .i64 p_d)] false false)), (some (.cells (F_B p_b1) false true))] (.call [] (some false) [] (.tuple [(l_LB x2.1), (.int .i64 x2.2)]) [] (.br 18 (.v 22 (l_B x3) (.call [] none [] (.bool x4.1) [(some (.cells [(.acc 2 0 1 x4.2.2.length true), (.int .i64 x4.2.1)] false false)), none, (some (.cells (F_B x4.2.2) false true))] (.fin (some false) [] (some true)))) (.fin (some false) [] (some true))))) (out_wal_Open_2 p_d p_b1 r).1 (out_wal_Open_2 p_d p_b1 r).2 = (1 = 1 ∧ 1 ≤ 27 ∧ (Spec C 50 [(.ptr (some (0, 0)))] [(some (.cells [(.acc 1 0 1 p_b1.length true), (.int .i64 p_d)] false false)), (some (.cells (F_B p_b1) false true))] (l_B x1) [(some (.cells [(.acc 1 0 1 p_b1.length true), (.int .i64 p_d)] false false)), (some (.cells (F_B p_b1) false true))] ∧ (2 ≤ 2 ∧ (Spec C 24 [(l_B x1)] [] (.tuple [(l_LB x2.1), (.int .i64 x2.2)]) [] ∧ (0 ≤ 0 ∧ (((decide (x2.2 < (x1.length : Int))) = true → (wP (.slice 1 (.c (l_B x1)) none (some (.c (.int .i64 x2.2))) none) = some (l_B x3) ∧ (Spec C 91 [(.ptr (some (0, 0))), (l_B x3)] [(some (.cells [(.acc 1 0 1 p_b1.length true), (.int .i64 p_d)] false false)), (some (.cells (F_B p_b1) false true))] (.bool x4.1) [(some (.cells [(.acc 2 0 1 x4.2.2.length true), (.int .i64 x4.2.1)] false false)), none, (some (.cells (F_B x4.2.2) false true))] ∧ (2 ≤ 3 ∧ lff (out_wal_Open_2 p_d p_b1) (x4.2.1, x4.2.2) r)))) ∧ ((decide (x2.2 < (x1.length : Int))) = false → lff (out_wal_Open_2 p_d p_b1) (p_d, p_b1) r))))))) := fun C => by kernel_rfl
  refine spec_of (fun _ _ h => by cases h) rfl atab_31 WF31_ok ((e _).mpr ⟨rfl, by decide, ?_⟩)
  unfold wal_Open_2 at h
  obtain ⟨q1, h⟩ := bget hx1 h
  refine ⟨s_disk_Disk_Bytes_2 (d + 4) q1, ?_⟩
  refine ⟨by decide, ?_⟩
  obtain ⟨q2, h⟩ := bget hx2 h
  refine ⟨s_frame_Read (d + 0) q2, ?_⟩
  refine ⟨by decide, ?_⟩
  refine ⟨fun hb => ?_, fun hb => ?_⟩
  · have h := cond_t hb h
    obtain ⟨q3, h⟩ := bget hx3 h
    refine ⟨wP_sl_h R_B q3, ?_⟩
    obtain ⟨q4, h⟩ := bget hx4 h
    refine ⟨s_disk_Disk_Swap_2 (d + 4) q4, ?_⟩
    refine ⟨by decide, ?_⟩
    exact lff_of h
  · have h := cond_f hb h
    exact lff_of h

/- (*osmosis/wal.Log).Records -/
def wal_Log_Records (p_b1 : Int) (p_b2 : List UInt8) : Option (List (List UInt8)) :=
  (disk_Disk_Bytes_2 p_b1 p_b2).bind fun (x1 : List UInt8) => (frame_Read x1).bind fun (x2 : List (List UInt8) × Int) => some x2.1
def out_wal_Log_Records (p_b1 : Int) (p_b2 : List UInt8) (r : List (List UInt8)) : AV × WH := ((l_LB r), [(some (.cells [(.ptr (some (1, 0)))] false false)), (some (.cells [(.acc 2 0 1 p_b2.length true), (.int .i64 p_b1)] false false)), (some (.cells (F_B p_b2) false true))])

theorem s_wal_Log_Records (d : Nat) {p_b1 : Int} {p_b2 : List UInt8} {r : List (List UInt8)} (h : wal_Log_Records p_b1 p_b2 = some r) : Spec (wcalls atab (d + 7)) 36 [(.ptr (some (0, 0)))] [(some (.cells [(.ptr (some (1, 0)))] false false)), (some (.cells [(.acc 2 0 1 p_b2.length true), (.int .i64 p_b1)] false false)), (some (.cells (F_B p_b2) false true))] (out_wal_Log_Records p_b1 p_b2 r).1 (out_wal_Log_Records p_b1 p_b2 r).2 := by
  obtain ⟨x1, hx1⟩ := wx (disk_Disk_Bytes_2 p_b1 p_b2)
  obtain ⟨x2, hx2⟩ := wx (frame_Read x1)
  have e : ∀ C : ACalls, wBody C (fun _ => none) KK WF36 [(.ptr (some (0, 0)))] [(some (.cells [(.ptr (some (1, 0)))] false false)), (some (.cells [(.acc 2 0 1 p_b2.length true), (.int .i64 p_b1)] false false)), (some (.cells (F_B p_b2) false true))] (.call [] none [] (l_B x1) [(some (.cells [(.acc 1 0 1 p_b2.length true), (.int .i64 p_b1)] false false)), (some (.cells (F_B p_b2) false true))] (.call [] (some false) [] (.tuple [(l_LB x2.1), (.int .i64 x2.2)]) [] (.fin (some false) [] none))) (out_wal_Log_Records p_b1 p_b2 r).1 (out_wal_Log_Records p_b1 p_b2 r).2 = (1 = 1 ∧ 1 ≤ 15 ∧ (Spec C 50 [(.ptr (some (0, 0)))] [(some (.cells [(.acc 1 0 1 p_b2.length true), (.int .i64 p_b1)] false false)), (some (.cells (F_B p_b2) false true))] (l_B x1) [(some (.cells [(.acc 1 0 1 p_b2.length true), (.int .i64 p_b1)] false false)), (some (.cells (F_B p_b2) false true))] ∧ (2 ≤ 2 ∧ (Spec C 24 [(l_B x1)] [] (.tuple [(l_LB x2.1), (.int .i64 x2.2)]) [] ∧ (0 ≤ 0 ∧ lff (out_wal_Log_Records p_b1 p_b2) x2.1 r))))) := fun C => by kernel_rfl
  refine spec_of (fun _ _ h => by cases h) rfl atab_36 WF36_ok ((e _).mpr ⟨rfl, by decide, ?_⟩)
  unfold wal_Log_Records at h
  obtain ⟨q1, h⟩ := bget hx1 h
  refine ⟨s_disk_Disk_Bytes_2 (d + 4) q1, ?_⟩
  refine ⟨by decide, ?_⟩
  obtain ⟨q2, h⟩ := bget hx2 h
  refine ⟨s_frame_Read (d + 0) q2, ?_⟩
  refine ⟨by decide, ?_⟩
  exact lff_of h

/- (*osmosis/disk.Disk).Size -/
def disk_Disk_Size (p_d : Int) (p_b1 : List UInt8) : Option (Int) :=
  some (p_b1.length : Int)
def out_disk_Disk_Size (p_d : Int) (p_b1 : List UInt8) (r : Int) : AV × WH := ((.int .i64 r), [(some (.cells [(.acc 1 0 1 p_b1.length true), (.int .i64 p_d)] false false)), (some (.cells (F_B p_b1) false true))])

theorem s_disk_Disk_Size (d : Nat) {p_d : Int} {p_b1 : List UInt8} {r : Int} (h : disk_Disk_Size p_d p_b1 = some r) : Spec (wcalls atab (d + 1)) 39 [(.ptr (some (0, 0)))] [(some (.cells [(.acc 1 0 1 p_b1.length true), (.int .i64 p_d)] false false)), (some (.cells (F_B p_b1) false true))] (out_disk_Disk_Size p_d p_b1 r).1 (out_disk_Disk_Size p_d p_b1 r).2 := by
  have e : ∀ C : ACalls, wBody C (fun _ => none) KK WF39 [(.ptr (some (0, 0)))] [(some (.cells [(.acc 1 0 1 p_b1.length true), (.int .i64 p_d)] false false)), (some (.cells (F_B p_b1) false true))] (.fin (some false) [] none) (out_disk_Disk_Size p_d p_b1 r).1 (out_disk_Disk_Size p_d p_b1 r).2 = (1 = 1 ∧ 1 ≤ 8 ∧ lff (out_disk_Disk_Size p_d p_b1) (p_b1.length : Int) r) := fun C => by kernel_rfl
  refine spec_of (fun _ _ h => by cases h) rfl atab_39 WF39_ok ((e _).mpr ⟨rfl, by decide, ?_⟩)
  unfold disk_Disk_Size at h
  exact lff_of h

/- osmosis/osmosislaw5.known -/
abbrev in_osmosislaw5_known_J0 (x2 : Int × List UInt8) : Fast × WH := ([(1, (.ptr (some (0, 0)))), (2, (.ptr (some (1, 0))))], [(some (.cells [(.acc 2 0 1 x2.2.length true), (.int .i64 x2.1)] false false)), (some (.cells [(.ptr (some (0, 0)))] false false)), (some (.cells (F_B x2.2) false true))])
def fin_osmosislaw5_known_J0 (x2 : Int × List UInt8) : Unit → Ex × Fast × WH := fun e => (.normal, [(1, (.ptr (some (0, 0)))), (2, (.ptr (some (1, 0))))], [(some (.cells [(.acc 2 0 1 x2.2.length true), (.int .i64 x2.1)] false false)), (some (.cells [(.ptr (some (0, 0)))] false false)), (some (.cells (F_B x2.2) false true))])
def osmosislaw5_known_J0 (x2 : Int × List UInt8) : Option (Unit) :=
  some ()
theorem s_osmosislaw5_known_J0 (d : Nat) {x2 : Int × List UInt8} {r : Unit} (h : osmosislaw5_known_J0 x2 = some r) : RunX (bexec (wcalls atab (d + 0)) KK 58 WJ32_bbba) 0 (in_osmosislaw5_known_J0 x2) (fin_osmosislaw5_known_J0 x2 r) := by
  have e : ∀ C : ACalls, wCode C (fun _ => none) KK 58 0 WJ32_bbba (in_osmosislaw5_known_J0 x2).1 (in_osmosislaw5_known_J0 x2).2 (.en [1, 2] [none, none] [] []) (fin_osmosislaw5_known_J0 x2 r) = lfe (fin_osmosislaw5_known_J0 x2) () r := fun C => by kernel_rfl
  refine runS_of (fun _ _ h => by cases h) WJ32_bbba_ok (Nat.le_of_ble_eq_true rfl) ((e _).mpr ?_)
  unfold osmosislaw5_known_J0 at h
  exact lfe_of h

def osmosislaw5_known  : Option (Bool) :=
  (disk_New).bind fun (x1 : Int) => (wal_Open x1).bind fun (x2 : Int × List UInt8) => (osmosislaw5_known_J0 x2).bind fun (x3 : Unit) => (wal_Log_Add ([[(97 : UInt8)]]) x2.1 x2.2).bind fun (x4 : Bool × List UInt8) => (disk_Disk_Sync x2.1 x4.2).bind fun (x5 : Int × Int) => (wal_Log_Add ([[(98 : UInt8)]]) x5.2 x4.2).bind fun (x6 : Bool × List UInt8) => (disk_Disk_Crash 2 x5.2 x6.2).bind fun (x7 : Int × Int × List UInt8) => (wal_Open_2 x7.2.1 x7.2.2).bind fun (x8 : Int × List UInt8) => (wal_Log_Records x8.1 x8.2).bind fun (x9 : List (List UInt8)) => cond ((x9.length : Int) == 1) ((getI x9 0).bind fun (x10 : List UInt8) => cond (x10 == [97]) ((disk_Disk_Size x8.1 x8.2).bind fun (x11 : Int) => some (x11 == 10)) (some false)) (some false)
def out_osmosislaw5_known (r : Bool) : AV × WH := ((.bool r), [])

theorem s_osmosislaw5_known (d : Nat)  {r : Bool} (h : osmosislaw5_known = some r) : Spec (wcalls atab (d + 8)) 32 [] [] (out_osmosislaw5_known r).1 (out_osmosislaw5_known r).2 := by
  obtain ⟨x1, hx1⟩ := wx (disk_New)
  obtain ⟨x2, hx2⟩ := wx (wal_Open x1)
  obtain ⟨x3, hx3⟩ := wx (osmosislaw5_known_J0 x2)
  obtain ⟨x4, hx4⟩ := wx (wal_Log_Add ([[(97 : UInt8)]]) x2.1 x2.2)
  obtain ⟨x5, hx5⟩ := wx (disk_Disk_Sync x2.1 x4.2)
  obtain ⟨x6, hx6⟩ := wx (wal_Log_Add ([[(98 : UInt8)]]) x5.2 x4.2)
  obtain ⟨x7, hx7⟩ := wx (disk_Disk_Crash 2 x5.2 x6.2)
  obtain ⟨x8, hx8⟩ := wx (wal_Open_2 x7.2.1 x7.2.2)
  obtain ⟨x9, hx9⟩ := wx (wal_Log_Records x8.1 x8.2)
  obtain ⟨x10, hx10⟩ := wx (getI x9 0)
  obtain ⟨x11, hx11⟩ := wx (disk_Disk_Size x8.1 x8.2)
  have e : ∀ C : ACalls, wBody C (fun _ => none) KK WF32 [] [] (.call [] (some false) [] (.ptr (some (0, 0))) [(some (.cells [(.slice none 1 0 0 true), (.int .i64 x1)] false false))] (.call [] none [] (.ptr (some (1, 0))) [(some (.cells [(.acc 2 0 1 x2.2.length true), (.int .i64 x2.1)] false false)), (some (.cells [(.ptr (some (0, 0)))] false false)), (some (.cells (F_B x2.2) false true))] (.jn [1, 2] [none, none] [] [] .normal [(1, (.ptr (some (0, 0)))), (2, (.ptr (some (1, 0))))] [(some (.cells [(.acc 2 0 1 x2.2.length true), (.int .i64 x2.1)] false false)), (some (.cells [(.ptr (some (0, 0)))] false false)), (some (.cells (F_B x2.2) false true))] (.call [] none [] (.bool x4.1) [(some (.cells [(.ptr (some (1, 0)))] false false)), (some (.cells [(.acc 3 0 1 x4.2.length true), (.int .i64 x2.1)] false false)), none, (some (.cells (F_B x4.2) false true))] (.call [] none [] (.int .i64 x5.1) [(some (.cells [(.acc 1 0 1 x4.2.length true), (.int .i64 x5.2)] false false)), (some (.cells (F_B x4.2) false true))] (.call [] none [] (.bool x6.1) [(some (.cells [(.ptr (some (1, 0)))] false false)), (some (.cells [(.acc 3 0 1 x6.2.length true), (.int .i64 x5.2)] false false)), none, (some (.cells (F_B x6.2) false true))] (.call [] none [] (.int .i64 x7.1) [(some (.cells [(.acc 2 0 1 x7.2.2.length true), (.int .i64 x7.2.1)] false false)), none, (some (.cells (F_B x7.2.2) false true))] (.call [] none [] (.ptr (some (2, 0))) [(some (.cells [(.acc 3 0 1 x8.2.length true), (.int .i64 x8.1)] false false)), none, (some (.cells [(.ptr (some (0, 0)))] false false)), (some (.cells (F_B x8.2) false true))] (.call [] none [] (l_LB x9) [(some (.cells [(.ptr (some (1, 0)))] false false)), (some (.cells [(.acc 2 0 1 x8.2.length true), (.int .i64 x8.1)] false false)), (some (.cells (F_B x8.2) false true))] (.br 43 (.v 45 (.elem ([(l_B x10)] ++ F_LB (x9.drop ((0 : Int).toNat + 1)))) (.v 47 (.str x10) (.br 50 (.call [] none [] (.int .i64 x11) [(some (.cells [(.acc 1 0 1 x8.2.length true), (.int .i64 x8.1)] false false)), (some (.cells (F_B x8.2) false true))] (.fin (some false) [] none)) (.fin (some false) [] none)))) (.fin (some false) [] none))))))))))) (out_osmosislaw5_known r).1 (out_osmosislaw5_known r).2 = (0 = 0 ∧ 0 ≤ 58 ∧ (Spec C 30 [] [] (.ptr (some (0, 0))) [(some (.cells [(.slice none 1 0 0 true), (.int .i64 x1)] false false))] ∧ (0 ≤ 1 ∧ (Spec C 31 [(.ptr (some (0, 0)))] [(some (.cells [(.slice none 1 0 0 true), (.int .i64 x1)] false false))] (.ptr (some (1, 0))) [(some (.cells [(.acc 2 0 1 x2.2.length true), (.int .i64 x2.1)] false false)), (some (.cells [(.ptr (some (0, 0)))] false false)), (some (.cells (F_B x2.2) false true))] ∧ (1 ≤ 3 ∧ (RunS (bexec C KK 58 WJ32_bbba) 0 [(1, (.ptr (some (0, 0)))), (2, (.ptr (some (1, 0))))] [(some (.cells [(.acc 2 0 1 x2.2.length true), (.int .i64 x2.1)] false false)), (some (.cells [(.ptr (some (0, 0)))] false false)), (some (.cells (F_B x2.2) false true))] .normal [(1, (.ptr (some (0, 0)))), (2, (.ptr (some (1, 0))))] [(some (.cells [(.acc 2 0 1 x2.2.length true), (.int .i64 x2.1)] false false)), (some (.cells [(.ptr (some (0, 0)))] false false)), (some (.cells (F_B x2.2) false true))] ∧ (Spec C 35 [(.ptr (some (0, 0))), (l_LB ([[(97 : UInt8)]]))] [(some (.cells [(.ptr (some (1, 0)))] false false)), (some (.cells [(.acc 2 0 1 x2.2.length true), (.int .i64 x2.1)] false false)), (some (.cells (F_B x2.2) false true))] (.bool x4.1) [(some (.cells [(.ptr (some (1, 0)))] false false)), (some (.cells [(.acc 3 0 1 x4.2.length true), (.int .i64 x2.1)] false false)), none, (some (.cells (F_B x4.2) false true))] ∧ (3 ≤ 4 ∧ (Spec C 38 [(.ptr (some (0, 0)))] [(some (.cells [(.acc 1 0 1 x4.2.length true), (.int .i64 x2.1)] false false)), (some (.cells (F_B x4.2) false true))] (.int .i64 x5.1) [(some (.cells [(.acc 1 0 1 x4.2.length true), (.int .i64 x5.2)] false false)), (some (.cells (F_B x4.2) false true))] ∧ (2 ≤ 2 ∧ (Spec C 35 [(.ptr (some (0, 0))), (l_LB ([[(98 : UInt8)]]))] [(some (.cells [(.ptr (some (1, 0)))] false false)), (some (.cells [(.acc 2 0 1 x4.2.length true), (.int .i64 x5.2)] false false)), (some (.cells (F_B x4.2) false true))] (.bool x6.1) [(some (.cells [(.ptr (some (1, 0)))] false false)), (some (.cells [(.acc 3 0 1 x6.2.length true), (.int .i64 x5.2)] false false)), none, (some (.cells (F_B x6.2) false true))] ∧ (3 ≤ 4 ∧ (Spec C 41 [(.ptr (some (0, 0))), (.int .i64 2)] [(some (.cells [(.acc 1 0 1 x6.2.length true), (.int .i64 x5.2)] false false)), (some (.cells (F_B x6.2) false true))] (.int .i64 x7.1) [(some (.cells [(.acc 2 0 1 x7.2.2.length true), (.int .i64 x7.2.1)] false false)), none, (some (.cells (F_B x7.2.2) false true))] ∧ (2 ≤ 3 ∧ (Spec C 31 [(.ptr (some (0, 0)))] [(some (.cells [(.acc 1 0 1 x7.2.2.length true), (.int .i64 x7.2.1)] false false)), (some (.cells (F_B x7.2.2) false true))] (.ptr (some (2, 0))) [(some (.cells [(.acc 3 0 1 x8.2.length true), (.int .i64 x8.1)] false false)), none, (some (.cells [(.ptr (some (0, 0)))] false false)), (some (.cells (F_B x8.2) false true))] ∧ (2 ≤ 4 ∧ (Spec C 36 [(.ptr (some (0, 0)))] [(some (.cells [(.ptr (some (1, 0)))] false false)), (some (.cells [(.acc 2 0 1 x8.2.length true), (.int .i64 x8.1)] false false)), (some (.cells (F_B x8.2) false true))] (l_LB x9) [(some (.cells [(.ptr (some (1, 0)))] false false)), (some (.cells [(.acc 2 0 1 x8.2.length true), (.int .i64 x8.1)] false false)), (some (.cells (F_B x8.2) false true))] ∧ (3 ≤ 3 ∧ ((((x9.length : Int) == 1) = true → (wP (.idxSlice 1 (.c (l_LB x9)) (.c (.int .i64 0))) = some (.elem ([(l_B x10)] ++ F_LB (x9.drop ((0 : Int).toNat + 1)))) ∧ ((toBytes (F_B x10)).map AV.str = some (.str x10) ∧ (((x10 == [97]) = true → (Spec C 39 [(.ptr (some (0, 0)))] [(some (.cells [(.acc 1 0 1 x8.2.length true), (.int .i64 x8.1)] false false)), (some (.cells (F_B x8.2) false true))] (.int .i64 x11) [(some (.cells [(.acc 1 0 1 x8.2.length true), (.int .i64 x8.1)] false false)), (some (.cells (F_B x8.2) false true))] ∧ (2 ≤ 2 ∧ lff out_osmosislaw5_known (x11 == 10) r))) ∧ ((x10 == [97]) = false → lff out_osmosislaw5_known false r))))) ∧ (((x9.length : Int) == 1) = false → lff out_osmosislaw5_known false r)))))))))))))))))))) := fun C => by kernel_rfl
  refine spec_of (fun _ _ h => by cases h) rfl atab_32 WF32_ok ((e _).mpr ⟨rfl, by decide, ?_⟩)
  unfold osmosislaw5_known at h
  obtain ⟨q1, h⟩ := bget hx1 h
  refine ⟨s_disk_New (d + 6) q1, ?_⟩
  refine ⟨by decide, ?_⟩
  obtain ⟨q2, h⟩ := bget hx2 h
  refine ⟨s_wal_Open (d + 0) q2, ?_⟩
  refine ⟨by decide, ?_⟩
  obtain ⟨q3, h⟩ := bget hx3 h
  refine ⟨s_osmosislaw5_known_J0 (d + 7) q3, ?_⟩
  obtain ⟨q4, h⟩ := bget hx4 h
  refine ⟨s_wal_Log_Add (d + 2) q4, ?_⟩
  refine ⟨by decide, ?_⟩
  obtain ⟨q5, h⟩ := bget hx5 h
  refine ⟨s_disk_Disk_Sync (d + 6) q5, ?_⟩
  refine ⟨by decide, ?_⟩
  obtain ⟨q6, h⟩ := bget hx6 h
  refine ⟨s_wal_Log_Add (d + 2) q6, ?_⟩
  refine ⟨by decide, ?_⟩
  obtain ⟨q7, h⟩ := bget hx7 h
  refine ⟨s_disk_Disk_Crash (d + 6) q7, ?_⟩
  refine ⟨by decide, ?_⟩
  obtain ⟨q8, h⟩ := bget hx8 h
  refine ⟨s_wal_Open_2 (d + 0) q8, ?_⟩
  refine ⟨by decide, ?_⟩
  obtain ⟨q9, h⟩ := bget hx9 h
  refine ⟨s_wal_Log_Records (d + 0) q9, ?_⟩
  refine ⟨by decide, ?_⟩
  refine ⟨fun hb => ?_, fun hb => ?_⟩
  · have h := cond_t hb h
    obtain ⟨q10, h⟩ := bget hx10 h
    refine ⟨wP_idx R_LB q10, ?_⟩
    refine ⟨by rw [show F_B x10 = (x10).map byteC from rfl, toBytes_map]; rfl, ?_⟩
    refine ⟨fun hb => ?_, fun hb => ?_⟩
    · have h := cond_t hb h
      obtain ⟨q11, h⟩ := bget hx11 h
      refine ⟨s_disk_Disk_Size (d + 6) q11, ?_⟩
      refine ⟨by decide, ?_⟩
      exact lff_of h
    · have h := cond_f hb h
      exact lff_of h
  · have h := cond_f hb h
    exact lff_of h

/- osmosis/osmosislaw5.some -/
abbrev in_osmosislaw5_some_J0 (s11 : Int × List (List UInt8)) (l : List (List UInt8)) : Fast × WH := ([(0, (l_LB l)), (3, (.acc 0 0 1 s11.2.length true)), (4, (.int .i64 s11.1))], [(some (.cells (F_LB s11.2) false true))])
def fin_osmosislaw5_some_J0 (s11 : Int × List (List UInt8)) (l : List (List UInt8)) : Unit ⊕ Unit → Ex × Fast × WH := fun
  | .inl e => (.normal, [(0, (l_LB l)), (3, (.acc 0 0 1 s11.2.length true)), (4, (.int .i64 s11.1))], [(some (.cells (F_LB s11.2) false true))])
  | .inr e => ((.exit 0), [(3, (.acc 0 0 1 s11.2.length true))], [(some (.cells (F_LB s11.2) false true))])
def osmosislaw5_some_J0 (s11 : Int × List (List UInt8)) (l : List (List UInt8)) : Option (Unit ⊕ Unit) :=
  cond (decide (s11.1 < (l.length : Int))) (cond (decide (s11.1 < 5)) (some (.inl ())) (some (.inr ()))) (some (.inr ()))
theorem s_osmosislaw5_some_J0 (d : Nat) {s11 : Int × List (List UInt8)} {l : List (List UInt8)} {r : Unit ⊕ Unit} (h : osmosislaw5_some_J0 s11 l = some r) : RunX (bexec (wcalls atab (d + 0)) KK 24 WJ33_bbabkla) 0 (in_osmosislaw5_some_J0 s11 l) (fin_osmosislaw5_some_J0 s11 l r) := by
  have e : ∀ C : ACalls, wCode C (fun _ => none) KK 24 0 WJ33_bbabkla (in_osmosislaw5_some_J0 s11 l).1 (in_osmosislaw5_some_J0 s11 l).2 (.br 9 (.br 12 (.en [0, 3, 4] [none, none, none] [] []) (.en [3] [none] [] [])) (.en [3] [none] [] [])) (fin_osmosislaw5_some_J0 s11 l r) = (((decide (s11.1 < (l.length : Int))) = true → (((decide (s11.1 < 5)) = true → lfe (fin_osmosislaw5_some_J0 s11 l) (.inl ()) r) ∧ ((decide (s11.1 < 5)) = false → lfe (fin_osmosislaw5_some_J0 s11 l) (.inr ()) r))) ∧ ((decide (s11.1 < (l.length : Int))) = false → lfe (fin_osmosislaw5_some_J0 s11 l) (.inr ()) r)) := fun C => by kernel_rfl
  refine runS_of (fun _ _ h => by cases h) WJ33_bbabkla_ok (Nat.le_of_ble_eq_true rfl) ((e _).mpr ?_)
  unfold osmosislaw5_some_J0 at h
  refine ⟨fun hb => ?_, fun hb => ?_⟩
  · have h := cond_t hb h
    refine ⟨fun hb => ?_, fun hb => ?_⟩
    · have h := cond_t hb h
      exact lfe_of h
    · have h := cond_f hb h
      exact lfe_of h
  · have h := cond_f hb h
    exact lfe_of h

def st_osmosislaw5_some_L1 (l : List (List UInt8)) (s11 : Int × List (List UInt8)) : List AV × WH := ([(l_LB l), (.acc 0 0 1 s11.2.length true), (.int .i64 s11.1)], [(some (.cells (F_LB s11.2) false true))])
def fin_osmosislaw5_some_L1 (l : List (List UInt8)) : (List (List UInt8)) → Ex × Fast × WH := fun e => ((.exit 0), [(3, (.acc 0 0 1 e.length true))], [(some (.cells (F_LB e) false true))])
abbrev rx_osmosislaw5_some_L1 (l : List (List UInt8)) := roundX [0, 3, 4] (st_osmosislaw5_some_L1 l) (fin_osmosislaw5_some_L1 l)
def osmosislaw5_some_L1_s (l : List (List UInt8)) (s11 : Int × List (List UInt8)) : Option ((Int × List (List UInt8)) ⊕ ((List (List UInt8)))) :=
  (osmosislaw5_some_J0 s11 l).bind fun (x12 : Unit ⊕ Unit) => cond (isL x12) ((getI l s11.1).bind fun (x14 : List UInt8) => (osmosishand_Few x14 60).bind fun (x15 : List UInt8) => gd (fitsB 24 (s11.2 ++ [x15]).length) (some (.inl ((IntKind.i64.wrap (s11.1 + 1)), (s11.2 ++ [x15]))))) (some (.inr s11.2))
def osmosislaw5_some_L1 (l : List (List UInt8)) (s11 : Int × List (List UInt8)) : Option ((List (List UInt8))) := loopX (osmosislaw5_some_L1_s l) KK s11
theorem b_osmosislaw5_some_L1 (d : Nat) {l : List (List UInt8)} {s11 : Int × List (List UInt8)} {r : (Int × List (List UInt8)) ⊕ ((List (List UInt8)))} (h : osmosislaw5_some_L1_s l s11 = some r) : RunX (bexec (wcalls atab (d + 1)) KK 24 WB33_0) 0 (inL [0, 3, 4] (st_osmosislaw5_some_L1 l s11)) (rx_osmosislaw5_some_L1 l r) := by
  obtain ⟨x12, hx12⟩ := wx (osmosislaw5_some_J0 s11 l)
  obtain ⟨x14, hx14⟩ := wx (getI l s11.1)
  obtain ⟨x15, hx15⟩ := wx (osmosishand_Few x14 60)
  have e : ∀ C : ACalls, wCode C (fun _ => none) KK 24 0 WB33_0 (inL [0, 3, 4] (st_osmosislaw5_some_L1 l s11)).1 (inL [0, 3, 4] (st_osmosislaw5_some_L1 l s11)).2 (.ite (isL x12) (.jn [0, 3, 4] [none, none, none] [] [] .normal [(0, (l_LB l)), (3, (.acc 0 0 1 s11.2.length true)), (4, (.int .i64 s11.1))] [(some (.cells (F_LB s11.2) false true))] (.v 18 (.elem ([(l_B x14)] ++ F_LB (l.drop (s11.1.toNat + 1)))) (.call [] (some false) [] (l_B x15) [] (.ap 22 (s11.2 ++ [x15]).length (F_LB (s11.2 ++ [x15])) (.en [0, 3, 4] [none, none, none] [] []))))) (.jn [0, 3, 4] [none, none, none] [] [] (.exit 0) [(3, (.acc 0 0 1 s11.2.length true))] [(some (.cells (F_LB s11.2) false true))] (.en [3] [none] [] []))) (rx_osmosislaw5_some_L1 l r) = (((isL x12) = true → (RunS (bexec C KK 24 WJ33_bbabkla) 0 [(0, (l_LB l)), (3, (.acc 0 0 1 s11.2.length true)), (4, (.int .i64 s11.1))] [(some (.cells (F_LB s11.2) false true))] .normal [(0, (l_LB l)), (3, (.acc 0 0 1 s11.2.length true)), (4, (.int .i64 s11.1))] [(some (.cells (F_LB s11.2) false true))] ∧ (wP (.idxSlice 1 (.c (l_LB l)) (.c (.int .i64 s11.1))) = some (.elem ([(l_B x14)] ++ F_LB (l.drop (s11.1.toNat + 1)))) ∧ (Spec C 34 [(l_B x14), (.int .i64 60)] [] (l_B x15) [] ∧ (0 ≤ 0 ∧ (s11.2.length + 1 = (s11.2 ++ [x15]).length ∧ (F_LB s11.2 ++ F_LB [x15] = F_LB (s11.2 ++ [x15]) ∧ (fitsB 24 (s11.2 ++ [x15]).length = true ∧ lfe (rx_osmosislaw5_some_L1 l) (.inl ((IntKind.i64.wrap (s11.1 + 1)), (s11.2 ++ [x15]))) r)))))))) ∧ ((isL x12) = false → (RunS (bexec C KK 24 WJ33_bbabkla) 0 [(0, (l_LB l)), (3, (.acc 0 0 1 s11.2.length true)), (4, (.int .i64 s11.1))] [(some (.cells (F_LB s11.2) false true))] (.exit 0) [(3, (.acc 0 0 1 s11.2.length true))] [(some (.cells (F_LB s11.2) false true))] ∧ lfe (rx_osmosislaw5_some_L1 l) (.inr s11.2) r))) := fun C => by kernel_rfl
  refine runS_of (fun _ _ h => by cases h) WB33_0_ok (Nat.le_of_ble_eq_true rfl) ((e _).mpr ?_)
  unfold osmosislaw5_some_L1_s at h
  obtain ⟨q12, h⟩ := bget hx12 h
  refine ⟨fun hb13 => ?_, fun hb13 => ?_⟩
  · have h := cond_t hb13 h
    refine ⟨by have h := s_osmosislaw5_some_J0 (d + 1) q12; rw [isL_t hb13] at h; exact h, ?_⟩
    obtain ⟨q14, h⟩ := bget hx14 h
    refine ⟨wP_idx R_LB q14, ?_⟩
    obtain ⟨q15, h⟩ := bget hx15 h
    refine ⟨s_osmosishand_Few (d + 0) q15, ?_⟩
    refine ⟨by decide, ?_⟩
    obtain ⟨q16, h⟩ := gd_some h
    refine ⟨by simp, ?_⟩
    refine ⟨(Row.app R_LB _ _).symm, ?_⟩
    refine ⟨q16, ?_⟩
    exact lfe_of h
  · have h := cond_f hb13 h
    refine ⟨by have h := s_osmosislaw5_some_J0 (d + 1) q12; rw [isL_f hb13] at h; exact h, ?_⟩
    exact lfe_of h
theorem s_osmosislaw5_some_L1 (d : Nat) {l : List (List UInt8)} {s11 : Int × List (List UInt8)} {r : (List (List UInt8))} (h : osmosislaw5_some_L1 l s11 = some r) : RunX (bloop (bexec (wcalls atab (d + 1)) KK 24 WB33_0) [0, 3, 4] KK) 0 (inL [0, 3, 4] (st_osmosislaw5_some_L1 l s11)) (fin_osmosislaw5_some_L1 l r) :=
  loop_of (st := st_osmosislaw5_some_L1 l) (fin := fin_osmosislaw5_some_L1 l) (step := osmosislaw5_some_L1_s l) (fun e => by (intro h; cases h)) (fun s x h => b_osmosislaw5_some_L1 d h) KK s11 r h

def osmosislaw5_some (l : List (List UInt8)) : Option (List (List UInt8)) :=
  (osmosislaw5_some_L1 l (0, [])).bind fun (x17 : (List (List UInt8))) => some x17
def out_osmosislaw5_some (l : List (List UInt8)) (r : List (List UInt8)) : AV × WH := ((l_LB r), [])

theorem s_osmosislaw5_some (d : Nat) {l : List (List UInt8)} {r : List (List UInt8)} (h : osmosislaw5_some l = some r) : Spec (wcalls atab (d + 2)) 33 [(l_LB l)] [] (out_osmosislaw5_some l r).1 (out_osmosislaw5_some l r).2 := by
  obtain ⟨x17, hx17⟩ := wx (osmosislaw5_some_L1 l (0, []))
  have e : ∀ C : ACalls, wBody C (fun _ => none) KK WF33 [(l_LB l)] [] (.lp [none, (some true), none] [] [] (.exit 0) [(3, (.acc 0 0 1 x17.length true))] [(some (.cells (F_LB x17) false true))] (.fin (some false) [] none)) (out_osmosislaw5_some l r).1 (out_osmosislaw5_some l r).2 = (1 = 1 ∧ 1 ≤ 24 ∧ (RunS (bloop (bexec C KK 24 WB33_0) [0, 3, 4] KK) 0 [(0, (l_LB l)), (3, (.acc 0 0 1 0 true)), (4, (.int .i64 0))] [(some (.cells (F_LB []) false true))] (.exit 0) [(3, (.acc 0 0 1 x17.length true))] [(some (.cells (F_LB x17) false true))] ∧ lff (out_osmosislaw5_some l) x17 r)) := fun C => by kernel_rfl
  refine spec_of (fun _ _ h => by cases h) rfl atab_33 WF33_ok ((e _).mpr ⟨rfl, by decide, ?_⟩)
  unfold osmosislaw5_some at h
  obtain ⟨q17, h⟩ := bget hx17 h
  refine ⟨s_osmosislaw5_some_L1 (d + 0) q17, ?_⟩
  exact lff_of h

/- (*osmosis/disk.Disk).Synced -/
def disk_Disk_Synced (p_d : Int) (p_b1 : List UInt8) : Option (Int) :=
  some p_d
def out_disk_Disk_Synced (p_d : Int) (p_b1 : List UInt8) (r : Int) : AV × WH := ((.int .i64 r), [(some (.cells [(.acc 1 0 1 p_b1.length true), (.int .i64 p_d)] false false)), (some (.cells (F_B p_b1) false true))])

theorem s_disk_Disk_Synced (d : Nat) {p_d : Int} {p_b1 : List UInt8} {r : Int} (h : disk_Disk_Synced p_d p_b1 = some r) : Spec (wcalls atab (d + 1)) 40 [(.ptr (some (0, 0)))] [(some (.cells [(.acc 1 0 1 p_b1.length true), (.int .i64 p_d)] false false)), (some (.cells (F_B p_b1) false true))] (out_disk_Disk_Synced p_d p_b1 r).1 (out_disk_Disk_Synced p_d p_b1 r).2 := by
  have e : ∀ C : ACalls, wBody C (fun _ => none) KK WF40 [(.ptr (some (0, 0)))] [(some (.cells [(.acc 1 0 1 p_b1.length true), (.int .i64 p_d)] false false)), (some (.cells (F_B p_b1) false true))] (.fin (some false) [] none) (out_disk_Disk_Synced p_d p_b1 r).1 (out_disk_Disk_Synced p_d p_b1 r).2 = (1 = 1 ∧ 1 ≤ 7 ∧ lff (out_disk_Disk_Synced p_d p_b1) p_d r) := fun C => by kernel_rfl
  refine spec_of (fun _ _ h => by cases h) rfl atab_40 WF40_ok ((e _).mpr ⟨rfl, by decide, ?_⟩)
  unfold disk_Disk_Synced at h
  exact lff_of h

/- osmosis/osmosislaw5.same -/
def st_osmosislaw5_same_L0 (a : List (List UInt8)) (p_b : List (List UInt8)) (s3 : Int) : List AV × WH := ([(l_LB a), (l_LB p_b), (.int .i64 (a.length : Int)), (.int .i64 s3)], [])
def fin_osmosislaw5_same_L0 (a : List (List UInt8)) (p_b : List (List UInt8)) : Unit ⊕ Unit → Ex × Fast × WH := fun
  | .inl e => (.ret, [(4, (.bool false))], [])
  | .inr e => ((.exit 0), [], [])
abbrev rx_osmosislaw5_same_L0 (a : List (List UInt8)) (p_b : List (List UInt8)) := roundX [0, 1, 12, 13] (st_osmosislaw5_same_L0 a p_b) (fin_osmosislaw5_same_L0 a p_b)
def osmosislaw5_same_L0_s (a : List (List UInt8)) (p_b : List (List UInt8)) (s3 : Int) : Option ((Int) ⊕ (Unit ⊕ Unit)) :=
  cond (decide (s3 < (a.length : Int))) ((getI a s3).bind fun (x4 : List UInt8) => (getI p_b s3).bind fun (x5 : List UInt8) => cond (!(x4 == x5)) (some (.inr (.inl ()))) (some (.inl (IntKind.i64.wrap (s3 + 1))))) (some (.inr (.inr ())))
def osmosislaw5_same_L0 (a : List (List UInt8)) (p_b : List (List UInt8)) (s3 : Int) : Option (Unit ⊕ Unit) := loopX (osmosislaw5_same_L0_s a p_b) KK s3
theorem b_osmosislaw5_same_L0 (d : Nat) {a : List (List UInt8)} {p_b : List (List UInt8)} {s3 : Int} {r : (Int) ⊕ (Unit ⊕ Unit)} (h : osmosislaw5_same_L0_s a p_b s3 = some r) : RunX (bexec (wcalls atab (d + 0)) KK 28 WB37_0) 0 (inL [0, 1, 12, 13] (st_osmosislaw5_same_L0 a p_b s3)) (rx_osmosislaw5_same_L0 a p_b r) := by
  obtain ⟨x4, hx4⟩ := wx (getI a s3)
  obtain ⟨x5, hx5⟩ := wx (getI p_b s3)
  have e : ∀ C : ACalls, wCode C (fun _ => none) KK 28 0 WB37_0 (inL [0, 1, 12, 13] (st_osmosislaw5_same_L0 a p_b s3)).1 (inL [0, 1, 12, 13] (st_osmosislaw5_same_L0 a p_b s3)).2 (.br 14 (.v 18 (.elem ([(l_B x4)] ++ F_LB (a.drop (s3.toNat + 1)))) (.v 20 (.str x4) (.v 23 (.elem ([(l_B x5)] ++ F_LB (p_b.drop (s3.toNat + 1)))) (.v 25 (.str x5) (.br 26 (.en [4] [none] [] []) (.en [0, 1, 12, 13] [none, none, none, none] [] [])))))) (.en [] [] [] [])) (rx_osmosislaw5_same_L0 a p_b r) = (((decide (s3 < (a.length : Int))) = true → (wP (.idxSlice 1 (.c (l_LB a)) (.c (.int .i64 s3))) = some (.elem ([(l_B x4)] ++ F_LB (a.drop (s3.toNat + 1)))) ∧ ((toBytes (F_B x4)).map AV.str = some (.str x4) ∧ (wP (.idxSlice 1 (.c (l_LB p_b)) (.c (.int .i64 s3))) = some (.elem ([(l_B x5)] ++ F_LB (p_b.drop (s3.toNat + 1)))) ∧ ((toBytes (F_B x5)).map AV.str = some (.str x5) ∧ (((!(x4 == x5)) = true → lfe (rx_osmosislaw5_same_L0 a p_b) (.inr (.inl ())) r) ∧ ((!(x4 == x5)) = false → lfe (rx_osmosislaw5_same_L0 a p_b) (.inl (IntKind.i64.wrap (s3 + 1))) r))))))) ∧ ((decide (s3 < (a.length : Int))) = false → lfe (rx_osmosislaw5_same_L0 a p_b) (.inr (.inr ())) r)) := fun C => by kernel_rfl
  refine runS_of (fun _ _ h => by cases h) WB37_0_ok (Nat.le_of_ble_eq_true rfl) ((e _).mpr ?_)
  unfold osmosislaw5_same_L0_s at h
  refine ⟨fun hb => ?_, fun hb => ?_⟩
  · have h := cond_t hb h
    obtain ⟨q4, h⟩ := bget hx4 h
    refine ⟨wP_idx R_LB q4, ?_⟩
    refine ⟨by rw [show F_B x4 = (x4).map byteC from rfl, toBytes_map]; rfl, ?_⟩
    obtain ⟨q5, h⟩ := bget hx5 h
    refine ⟨wP_idx R_LB q5, ?_⟩
    refine ⟨by rw [show F_B x5 = (x5).map byteC from rfl, toBytes_map]; rfl, ?_⟩
    refine ⟨fun hb => ?_, fun hb => ?_⟩
    · have h := cond_t hb h
      exact lfe_of h
    · have h := cond_f hb h
      exact lfe_of h
  · have h := cond_f hb h
    exact lfe_of h
theorem s_osmosislaw5_same_L0 (d : Nat) {a : List (List UInt8)} {p_b : List (List UInt8)} {s3 : Int} {r : Unit ⊕ Unit} (h : osmosislaw5_same_L0 a p_b s3 = some r) : RunX (bloop (bexec (wcalls atab (d + 0)) KK 28 WB37_0) [0, 1, 12, 13] KK) 0 (inL [0, 1, 12, 13] (st_osmosislaw5_same_L0 a p_b s3)) (fin_osmosislaw5_same_L0 a p_b r) :=
  loop_of (st := st_osmosislaw5_same_L0 a p_b) (fin := fin_osmosislaw5_same_L0 a p_b) (step := osmosislaw5_same_L0_s a p_b) (fun e => by rcases e with e | e <;> (intro h; cases h)) (fun s x h => b_osmosislaw5_same_L0 d h) KK s3 r h

def osmosislaw5_same (a : List (List UInt8)) (p_b : List (List UInt8)) : Option (Bool) :=
  cond ((a.length : Int) != (p_b.length : Int)) (some false) ((osmosislaw5_same_L0 a p_b 0).bind fun (x6 : Unit ⊕ Unit) => cond (isL x6) (some false) (some true))
def out_osmosislaw5_same (a : List (List UInt8)) (p_b : List (List UInt8)) (r : Bool) : AV × WH := ((.bool r), [])

theorem s_osmosislaw5_same (d : Nat) {a : List (List UInt8)} {p_b : List (List UInt8)} {r : Bool} (h : osmosislaw5_same a p_b = some r) : Spec (wcalls atab (d + 1)) 37 [(l_LB a), (l_LB p_b)] [] (out_osmosislaw5_same a p_b r).1 (out_osmosislaw5_same a p_b r).2 := by
  obtain ⟨x6, hx6⟩ := wx (osmosislaw5_same_L0 a p_b 0)
  have e : ∀ C : ACalls, wBody C (fun _ => none) KK WF37 [(l_LB a), (l_LB p_b)] [] (.br 10 (.fin (some false) [] none) (.ite (isL x6) (.lp [none, none, none, none] [] [] .ret [(4, (.bool false))] [] (.fin (some false) [] none)) (.lp [none, none, none, none] [] [] (.exit 0) [] [] (.fin (some false) [] none)))) (out_osmosislaw5_same a p_b r).1 (out_osmosislaw5_same a p_b r).2 = (2 = 2 ∧ 2 ≤ 28 ∧ ((((a.length : Int) != (p_b.length : Int)) = true → lff (out_osmosislaw5_same a p_b) false r) ∧ (((a.length : Int) != (p_b.length : Int)) = false → (((isL x6) = true → (RunS (bloop (bexec C KK 28 WB37_0) [0, 1, 12, 13] KK) 0 [(0, (l_LB a)), (1, (l_LB p_b)), (12, (.int .i64 (a.length : Int))), (13, (.int .i64 0))] [] .ret [(4, (.bool false))] [] ∧ lff (out_osmosislaw5_same a p_b) false r)) ∧ ((isL x6) = false → (RunS (bloop (bexec C KK 28 WB37_0) [0, 1, 12, 13] KK) 0 [(0, (l_LB a)), (1, (l_LB p_b)), (12, (.int .i64 (a.length : Int))), (13, (.int .i64 0))] [] (.exit 0) [] [] ∧ lff (out_osmosislaw5_same a p_b) true r)))))) := fun C => by kernel_rfl
  refine spec_of (fun _ _ h => by cases h) rfl atab_37 WF37_ok ((e _).mpr ⟨rfl, by decide, ?_⟩)
  unfold osmosislaw5_same at h
  refine ⟨fun hb => ?_, fun hb => ?_⟩
  · have h := cond_t hb h
    exact lff_of h
  · have h := cond_f hb h
    obtain ⟨q6, h⟩ := bget hx6 h
    refine ⟨fun hb7 => ?_, fun hb7 => ?_⟩
    · have h := cond_t hb7 h
      refine ⟨by have h := s_osmosislaw5_same_L0 (d + 0) q6; rw [isL_t hb7] at h; exact h, ?_⟩
      exact lff_of h
    · have h := cond_f hb7 h
      refine ⟨by have h := s_osmosislaw5_same_L0 (d + 0) q6; rw [isL_f hb7] at h; exact h, ?_⟩
      exact lff_of h

/- (*osmosis/wal.Log).Rewrite -/
def wal_Log_Rewrite (records : List (List UInt8)) (p_b1 : Int) (p_b2 : List UInt8) : Option (Bool × Int × List UInt8) :=
  (wal_long records).bind fun (x1 : Bool) => cond (!x1) ((frame_Lay [] records).bind fun (x2 : List UInt8) => (disk_Disk_Swap_2 x2 p_b1 p_b2).bind fun (x3 : Bool × Int × List UInt8) => some (x3.1, x3.2.1, x3.2.2)) (some (false, p_b1, p_b2))
def out_wal_Log_Rewrite (records : List (List UInt8)) (p_b1 : Int) (p_b2 : List UInt8) (r : Bool × Int × List UInt8) : AV × WH := ((.bool r.1), [(some (.cells [(.ptr (some (1, 0)))] false false)), (some (.cells [(.acc 3 0 1 r.2.2.length true), (.int .i64 r.2.1)] false false)), none, (some (.cells (F_B r.2.2) false true))])

theorem s_wal_Log_Rewrite (d : Nat) {records : List (List UInt8)} {p_b1 : Int} {p_b2 : List UInt8} {r : Bool × Int × List UInt8} (h : wal_Log_Rewrite records p_b1 p_b2 = some r) : Spec (wcalls atab (d + 5)) 42 [(.ptr (some (0, 0))), (l_LB records)] [(some (.cells [(.ptr (some (1, 0)))] false false)), (some (.cells [(.acc 2 0 1 p_b2.length true), (.int .i64 p_b1)] false false)), (some (.cells (F_B p_b2) false true))] (out_wal_Log_Rewrite records p_b1 p_b2 r).1 (out_wal_Log_Rewrite records p_b1 p_b2 r).2 := by
  obtain ⟨x1, hx1⟩ := wx (wal_long records)
  obtain ⟨x2, hx2⟩ := wx (frame_Lay [] records)
  obtain ⟨x3, hx3⟩ := wx (disk_Disk_Swap_2 x2 p_b1 p_b2)
  have e : ∀ C : ACalls, wBody C (fun _ => none) KK WF42 [(.ptr (some (0, 0))), (l_LB records)] [(some (.cells [(.ptr (some (1, 0)))] false false)), (some (.cells [(.acc 2 0 1 p_b2.length true), (.int .i64 p_b1)] false false)), (some (.cells (F_B p_b2) false true))] (.cb [] [] (.bool x1) (.br 8 (.call [] (some false) [] (l_B x2) [] (.call [] none [] (.bool x3.1) [(some (.cells [(.acc 2 0 1 x3.2.2.length true), (.int .i64 x3.2.1)] false false)), none, (some (.cells (F_B x3.2.2) false true))] (.fin (some false) [] (some true)))) (.fin (some false) [] (some true)))) (out_wal_Log_Rewrite records p_b1 p_b2 r).1 (out_wal_Log_Rewrite records p_b1 p_b2 r).2 = (2 = 2 ∧ 2 ≤ 17 ∧ (Spec C 92 [(l_LB records)] [] (.bool x1) [] ∧ (((!x1) = true → (Spec C 23 [(l_B []), (l_LB records)] [] (l_B x2) [] ∧ (0 ≤ 0 ∧ (Spec C 91 [(.ptr (some (0, 0))), (l_B x2)] [(some (.cells [(.acc 1 0 1 p_b2.length true), (.int .i64 p_b1)] false false)), (some (.cells (F_B p_b2) false true))] (.bool x3.1) [(some (.cells [(.acc 2 0 1 x3.2.2.length true), (.int .i64 x3.2.1)] false false)), none, (some (.cells (F_B x3.2.2) false true))] ∧ (2 ≤ 3 ∧ lff (out_wal_Log_Rewrite records p_b1 p_b2) (x3.1, x3.2.1, x3.2.2) r))))) ∧ ((!x1) = false → lff (out_wal_Log_Rewrite records p_b1 p_b2) (false, p_b1, p_b2) r)))) := fun C => by kernel_rfl
  refine spec_of (fun _ _ h => by cases h) rfl atab_42 WF42_ok ((e _).mpr ⟨rfl, by decide, ?_⟩)
  unfold wal_Log_Rewrite at h
  obtain ⟨q1, h⟩ := bget hx1 h
  refine ⟨s_wal_long (d + 0) q1, ?_⟩
  refine ⟨fun hb => ?_, fun hb => ?_⟩
  · have h := cond_t hb h
    obtain ⟨q2, h⟩ := bget hx2 h
    refine ⟨s_frame_Lay (d + 1) q2, ?_⟩
    refine ⟨by decide, ?_⟩
    obtain ⟨q3, h⟩ := bget hx3 h
    refine ⟨s_disk_Disk_Swap_2 (d + 2) q3, ?_⟩
    refine ⟨by decide, ?_⟩
    exact lff_of h
  · have h := cond_f hb h
    exact lff_of h

/- osmosis/osmosislaw5.WalRewritten -/
abbrev in_osmosislaw5_WalRewritten_J0 (a : List (List UInt8)) (p_b : List (List UInt8)) (c : List (List UInt8)) (keep : Int) (x2 : Int × List UInt8) : Fast × WH := ([(0, (l_LB a)), (1, (l_LB p_b)), (2, (l_LB c)), (3, (.int .i64 keep)), (9, (.ptr (some (0, 0)))), (10, (.ptr (some (1, 0))))], [(some (.cells [(.acc 2 0 1 x2.2.length true), (.int .i64 x2.1)] false false)), (some (.cells [(.ptr (some (0, 0)))] false false)), (some (.cells (F_B x2.2) false true))])
def fin_osmosislaw5_WalRewritten_J0 (a : List (List UInt8)) (p_b : List (List UInt8)) (c : List (List UInt8)) (keep : Int) (x2 : Int × List UInt8) : Unit ⊕ Unit → Ex × Fast × WH := fun
  | .inl e => (.ret, [(8, (.bool false))], [])
  | .inr e => (.normal, [(0, (l_LB a)), (1, (l_LB p_b)), (2, (l_LB c)), (3, (.int .i64 keep)), (9, (.ptr (some (0, 0)))), (10, (.ptr (some (1, 0))))], [(some (.cells [(.acc 2 0 1 x2.2.length true), (.int .i64 x2.1)] false false)), (some (.cells [(.ptr (some (0, 0)))] false false)), (some (.cells (F_B x2.2) false true))])
def osmosislaw5_WalRewritten_J0 (a : List (List UInt8)) (p_b : List (List UInt8)) (c : List (List UInt8)) (keep : Int) (x2 : Int × List UInt8) : Option (Unit ⊕ Unit) :=
  (osmosislaw5_known).bind fun (x3 : Bool) => cond (!x3) (some (.inl ())) (some (.inr ()))
theorem s_osmosislaw5_WalRewritten_J0 (d : Nat) {a : List (List UInt8)} {p_b : List (List UInt8)} {c : List (List UInt8)} {keep : Int} {x2 : Int × List UInt8} {r : Unit ⊕ Unit} (h : osmosislaw5_WalRewritten_J0 a p_b c keep x2 = some r) : RunX (bexec (wcalls atab (d + 8)) KK 130 WJ12_bbba) 0 (in_osmosislaw5_WalRewritten_J0 a p_b c keep x2) (fin_osmosislaw5_WalRewritten_J0 a p_b c keep x2 r) := by
  obtain ⟨x3, hx3⟩ := wx (osmosislaw5_known)
  have e : ∀ C : ACalls, wCode C (fun _ => none) KK 130 0 WJ12_bbba (in_osmosislaw5_WalRewritten_J0 a p_b c keep x2).1 (in_osmosislaw5_WalRewritten_J0 a p_b c keep x2).2 (.cb [] [] (.bool x3) (.br 21 (.en [8] [none] [] []) (.en [0, 1, 2, 3, 9, 10] [none, none, none, none, none, none] [] []))) (fin_osmosislaw5_WalRewritten_J0 a p_b c keep x2 r) = (Spec C 32 [] [] (.bool x3) [] ∧ (((!x3) = true → lfe (fin_osmosislaw5_WalRewritten_J0 a p_b c keep x2) (.inl ()) r) ∧ ((!x3) = false → lfe (fin_osmosislaw5_WalRewritten_J0 a p_b c keep x2) (.inr ()) r))) := fun C => by kernel_rfl
  refine runS_of (fun _ _ h => by cases h) WJ12_bbba_ok (Nat.le_of_ble_eq_true rfl) ((e _).mpr ?_)
  unfold osmosislaw5_WalRewritten_J0 at h
  obtain ⟨q3, h⟩ := bget hx3 h
  refine ⟨s_osmosislaw5_known (d + 0) q3, ?_⟩
  refine ⟨fun hb => ?_, fun hb => ?_⟩
  · have h := cond_t hb h
    exact lfe_of h
  · have h := cond_f hb h
    exact lfe_of h

abbrev in_osmosislaw5_WalRewritten_J1 (x7 : List (List UInt8)) (x2 : Int × List UInt8) (x8 : Bool × List UInt8) (c : List (List UInt8)) (keep : Int) : Fast × WH := ([(2, (l_LB c)), (3, (.int .i64 keep)), (9, (.ptr (some (0, 0)))), (10, (.ptr (some (1, 0)))), (12, (l_LB x7))], [(some (.cells [(.acc 2 0 1 x8.2.length true), (.int .i64 x2.1)] false false)), (some (.cells [(.ptr (some (0, 0)))] false false)), (some (.cells (F_B x8.2) false true))])
def fin_osmosislaw5_WalRewritten_J1 (x7 : List (List UInt8)) (x2 : Int × List UInt8) (x8 : Bool × List UInt8) (c : List (List UInt8)) (keep : Int) : Unit ⊕ (Int × List UInt8) → Ex × Fast × WH := fun
  | .inl e => (.ret, [(8, (.bool false))], [])
  | .inr e => (.normal, [(2, (l_LB c)), (3, (.int .i64 keep)), (9, (.ptr (some (0, 0)))), (10, (.ptr (some (1, 0)))), (12, (l_LB x7))], [(some (.cells [(.acc 2 0 1 e.2.length true), (.int .i64 e.1)] false false)), (some (.cells [(.ptr (some (0, 0)))] false false)), (some (.cells (F_B e.2) false true))])
def osmosislaw5_WalRewritten_J1 (x7 : List (List UInt8)) (x2 : Int × List UInt8) (x8 : Bool × List UInt8) (c : List (List UInt8)) (keep : Int) : Option (Unit ⊕ (Int × List UInt8)) :=
  (wal_Log_Rewrite x7 x2.1 x8.2).bind fun (x9 : Bool × Int × List UInt8) => cond (!x9.1) (some (.inl ())) ((disk_Disk_Size x9.2.1 x9.2.2).bind fun (x10 : Int) => (disk_Disk_Size x9.2.1 x9.2.2).bind fun (x11 : Int) => cond (x10 != x11) (some (.inl ())) ((disk_Disk_Synced x9.2.1 x9.2.2).bind fun (x12 : Int) => (disk_Disk_Synced x9.2.1 x9.2.2).bind fun (x13 : Int) => cond (x12 != x13) (some (.inl ())) ((disk_Disk_Synced x9.2.1 x9.2.2).bind fun (x14 : Int) => (disk_Disk_Size x9.2.1 x9.2.2).bind fun (x15 : Int) => cond (x14 != x15) (some (.inl ())) (some (.inr (x9.2.1, x9.2.2))))))
theorem s_osmosislaw5_WalRewritten_J1 (d : Nat) {x7 : List (List UInt8)} {x2 : Int × List UInt8} {x8 : Bool × List UInt8} {c : List (List UInt8)} {keep : Int} {r : Unit ⊕ (Int × List UInt8)} (h : osmosislaw5_WalRewritten_J1 x7 x2 x8 c keep = some r) : RunX (bexec (wcalls atab (d + 5)) KK 130 WJ12_bbbbbbba) 0 (in_osmosislaw5_WalRewritten_J1 x7 x2 x8 c keep) (fin_osmosislaw5_WalRewritten_J1 x7 x2 x8 c keep r) := by
  obtain ⟨x9, hx9⟩ := wx (wal_Log_Rewrite x7 x2.1 x8.2)
  obtain ⟨x10, hx10⟩ := wx (disk_Disk_Size x9.2.1 x9.2.2)
  obtain ⟨x11, hx11⟩ := wx (disk_Disk_Size x9.2.1 x9.2.2)
  obtain ⟨x12, hx12⟩ := wx (disk_Disk_Synced x9.2.1 x9.2.2)
  obtain ⟨x13, hx13⟩ := wx (disk_Disk_Synced x9.2.1 x9.2.2)
  obtain ⟨x14, hx14⟩ := wx (disk_Disk_Synced x9.2.1 x9.2.2)
  obtain ⟨x15, hx15⟩ := wx (disk_Disk_Size x9.2.1 x9.2.2)
  have e : ∀ C : ACalls, wCode C (fun _ => none) KK 130 0 WJ12_bbbbbbba (in_osmosislaw5_WalRewritten_J1 x7 x2 x8 c keep).1 (in_osmosislaw5_WalRewritten_J1 x7 x2 x8 c keep).2 (.call [] none [] (.bool x9.1) [(some (.cells [(.ptr (some (1, 0)))] false false)), (some (.cells [(.acc 3 0 1 x9.2.2.length true), (.int .i64 x9.2.1)] false false)), none, (some (.cells (F_B x9.2.2) false true))] (.br 40 (.en [8] [none] [] []) (.call [] none [] (.int .i64 x10) [(some (.cells [(.acc 1 0 1 x9.2.2.length true), (.int .i64 x9.2.1)] false false)), (some (.cells (F_B x9.2.2) false true))] (.call [] none [] (.int .i64 x11) [(some (.cells [(.acc 1 0 1 x9.2.2.length true), (.int .i64 x9.2.1)] false false)), (some (.cells (F_B x9.2.2) false true))] (.br 50 (.en [8] [none] [] []) (.call [] none [] (.int .i64 x12) [(some (.cells [(.acc 1 0 1 x9.2.2.length true), (.int .i64 x9.2.1)] false false)), (some (.cells (F_B x9.2.2) false true))] (.call [] none [] (.int .i64 x13) [(some (.cells [(.acc 1 0 1 x9.2.2.length true), (.int .i64 x9.2.1)] false false)), (some (.cells (F_B x9.2.2) false true))] (.br 60 (.en [8] [none] [] []) (.call [] none [] (.int .i64 x14) [(some (.cells [(.acc 1 0 1 x9.2.2.length true), (.int .i64 x9.2.1)] false false)), (some (.cells (F_B x9.2.2) false true))] (.call [] none [] (.int .i64 x15) [(some (.cells [(.acc 1 0 1 x9.2.2.length true), (.int .i64 x9.2.1)] false false)), (some (.cells (F_B x9.2.2) false true))] (.br 72 (.en [8] [none] [] []) (.en [2, 3, 9, 10, 12] [none, none, none, none, none] [] [])))))))))))) (fin_osmosislaw5_WalRewritten_J1 x7 x2 x8 c keep r) = (Spec C 42 [(.ptr (some (0, 0))), (l_LB x7)] [(some (.cells [(.ptr (some (1, 0)))] false false)), (some (.cells [(.acc 2 0 1 x8.2.length true), (.int .i64 x2.1)] false false)), (some (.cells (F_B x8.2) false true))] (.bool x9.1) [(some (.cells [(.ptr (some (1, 0)))] false false)), (some (.cells [(.acc 3 0 1 x9.2.2.length true), (.int .i64 x9.2.1)] false false)), none, (some (.cells (F_B x9.2.2) false true))] ∧ (3 ≤ 4 ∧ (((!x9.1) = true → lfe (fin_osmosislaw5_WalRewritten_J1 x7 x2 x8 c keep) (.inl ()) r) ∧ ((!x9.1) = false → (Spec C 39 [(.ptr (some (0, 0)))] [(some (.cells [(.acc 1 0 1 x9.2.2.length true), (.int .i64 x9.2.1)] false false)), (some (.cells (F_B x9.2.2) false true))] (.int .i64 x10) [(some (.cells [(.acc 1 0 1 x9.2.2.length true), (.int .i64 x9.2.1)] false false)), (some (.cells (F_B x9.2.2) false true))] ∧ (2 ≤ 2 ∧ (Spec C 39 [(.ptr (some (0, 0)))] [(some (.cells [(.acc 1 0 1 x9.2.2.length true), (.int .i64 x9.2.1)] false false)), (some (.cells (F_B x9.2.2) false true))] (.int .i64 x11) [(some (.cells [(.acc 1 0 1 x9.2.2.length true), (.int .i64 x9.2.1)] false false)), (some (.cells (F_B x9.2.2) false true))] ∧ (2 ≤ 2 ∧ (((x10 != x11) = true → lfe (fin_osmosislaw5_WalRewritten_J1 x7 x2 x8 c keep) (.inl ()) r) ∧ ((x10 != x11) = false → (Spec C 40 [(.ptr (some (0, 0)))] [(some (.cells [(.acc 1 0 1 x9.2.2.length true), (.int .i64 x9.2.1)] false false)), (some (.cells (F_B x9.2.2) false true))] (.int .i64 x12) [(some (.cells [(.acc 1 0 1 x9.2.2.length true), (.int .i64 x9.2.1)] false false)), (some (.cells (F_B x9.2.2) false true))] ∧ (2 ≤ 2 ∧ (Spec C 40 [(.ptr (some (0, 0)))] [(some (.cells [(.acc 1 0 1 x9.2.2.length true), (.int .i64 x9.2.1)] false false)), (some (.cells (F_B x9.2.2) false true))] (.int .i64 x13) [(some (.cells [(.acc 1 0 1 x9.2.2.length true), (.int .i64 x9.2.1)] false false)), (some (.cells (F_B x9.2.2) false true))] ∧ (2 ≤ 2 ∧ (((x12 != x13) = true → lfe (fin_osmosislaw5_WalRewritten_J1 x7 x2 x8 c keep) (.inl ()) r) ∧ ((x12 != x13) = false → (Spec C 40 [(.ptr (some (0, 0)))] [(some (.cells [(.acc 1 0 1 x9.2.2.length true), (.int .i64 x9.2.1)] false false)), (some (.cells (F_B x9.2.2) false true))] (.int .i64 x14) [(some (.cells [(.acc 1 0 1 x9.2.2.length true), (.int .i64 x9.2.1)] false false)), (some (.cells (F_B x9.2.2) false true))] ∧ (2 ≤ 2 ∧ (Spec C 39 [(.ptr (some (0, 0)))] [(some (.cells [(.acc 1 0 1 x9.2.2.length true), (.int .i64 x9.2.1)] false false)), (some (.cells (F_B x9.2.2) false true))] (.int .i64 x15) [(some (.cells [(.acc 1 0 1 x9.2.2.length true), (.int .i64 x9.2.1)] false false)), (some (.cells (F_B x9.2.2) false true))] ∧ (2 ≤ 2 ∧ (((x14 != x15) = true → lfe (fin_osmosislaw5_WalRewritten_J1 x7 x2 x8 c keep) (.inl ()) r) ∧ ((x14 != x15) = false → lfe (fin_osmosislaw5_WalRewritten_J1 x7 x2 x8 c keep) (.inr (x9.2.1, x9.2.2)) r)))))))))))))))))))))) := fun C => by kernel_rfl
  refine runS_of (fun _ _ h => by cases h) WJ12_bbbbbbba_ok (Nat.le_of_ble_eq_true rfl) ((e _).mpr ?_)
  unfold osmosislaw5_WalRewritten_J1 at h
  obtain ⟨q9, h⟩ := bget hx9 h
  refine ⟨s_wal_Log_Rewrite (d + 0) q9, ?_⟩
  refine ⟨by decide, ?_⟩
  refine ⟨fun hb => ?_, fun hb => ?_⟩
  · have h := cond_t hb h
    exact lfe_of h
  · have h := cond_f hb h
    obtain ⟨q10, h⟩ := bget hx10 h
    refine ⟨s_disk_Disk_Size (d + 4) q10, ?_⟩
    refine ⟨by decide, ?_⟩
    obtain ⟨q11, h⟩ := bget hx11 h
    refine ⟨s_disk_Disk_Size (d + 4) q11, ?_⟩
    refine ⟨by decide, ?_⟩
    refine ⟨fun hb => ?_, fun hb => ?_⟩
    · have h := cond_t hb h
      exact lfe_of h
    · have h := cond_f hb h
      obtain ⟨q12, h⟩ := bget hx12 h
      refine ⟨s_disk_Disk_Synced (d + 4) q12, ?_⟩
      refine ⟨by decide, ?_⟩
      obtain ⟨q13, h⟩ := bget hx13 h
      refine ⟨s_disk_Disk_Synced (d + 4) q13, ?_⟩
      refine ⟨by decide, ?_⟩
      refine ⟨fun hb => ?_, fun hb => ?_⟩
      · have h := cond_t hb h
        exact lfe_of h
      · have h := cond_f hb h
        obtain ⟨q14, h⟩ := bget hx14 h
        refine ⟨s_disk_Disk_Synced (d + 4) q14, ?_⟩
        refine ⟨by decide, ?_⟩
        obtain ⟨q15, h⟩ := bget hx15 h
        refine ⟨s_disk_Disk_Size (d + 4) q15, ?_⟩
        refine ⟨by decide, ?_⟩
        refine ⟨fun hb => ?_, fun hb => ?_⟩
        · have h := cond_t hb h
          exact lfe_of h
        · have h := cond_f hb h
          exact lfe_of h

def osmosislaw5_WalRewritten (a : List (List UInt8)) (p_b : List (List UInt8)) (c : List (List UInt8)) (keep : Int) : Option (Bool) :=
  (disk_New).bind fun (x1 : Int) => (wal_Open x1).bind fun (x2 : Int × List UInt8) => (osmosislaw5_WalRewritten_J0 a p_b c keep x2).bind fun (x4 : Unit ⊕ Unit) => cond (isL x4) (some false) ((osmosislaw5_some a).bind fun (x6 : List (List UInt8)) => (osmosislaw5_some p_b).bind fun (x7 : List (List UInt8)) => (wal_Log_Add x6 x2.1 x2.2).bind fun (x8 : Bool × List UInt8) => (osmosislaw5_WalRewritten_J1 x7 x2 x8 c keep).bind fun (x16 : Unit ⊕ (Int × List UInt8)) => cond (isL x16) (some false) ((disk_Disk_Size ((getR x16).1) ((getR x16).2)).bind fun (x18 : Int) => (osmosislaw5_some c).bind fun (x19 : List (List UInt8)) => (wal_Log_Add x19 ((getR x16).1) ((getR x16).2)).bind fun (x20 : Bool × List UInt8) => (osmosishand_Pick keep 9).bind fun (x21 : Int) => (disk_Disk_Crash x21 ((getR x16).1) x20.2).bind fun (x22 : Int × Int × List UInt8) => (wal_Open_2 x22.2.1 x22.2.2).bind fun (x23 : Int × List UInt8) => cond (decide (x22.1 ≤ 8)) ((wal_Log_Records x23.1 x23.2).bind fun (x24 : List (List UInt8)) => cond (decide ((x24.length : Int) ≥ (x7.length : Int))) ((wal_Log_Records x23.1 x23.2).bind fun (x25 : List (List UInt8)) => (slI x25 0 (x7.length : Int)).bind fun (x26 : List (List UInt8)) => (osmosislaw5_same x26 x7).bind fun (x27 : Bool) => cond x27 ((disk_Disk_Size x23.1 x23.2).bind fun (x28 : Int) => cond (decide (x28 ≥ x18)) ((disk_Disk_Size x23.1 x23.2).bind fun (x29 : Int) => (disk_Disk_Size x23.1 x23.2).bind fun (x30 : Int) => some (x29 == x30)) (some false)) (some false)) (some false)) (some false)))
def out_osmosislaw5_WalRewritten (a : List (List UInt8)) (p_b : List (List UInt8)) (c : List (List UInt8)) (keep : Int) (r : Bool) : AV × WH := ((.bool r), [])

theorem s_osmosislaw5_WalRewritten (d : Nat) {a : List (List UInt8)} {p_b : List (List UInt8)} {c : List (List UInt8)} {keep : Int} {r : Bool} (h : osmosislaw5_WalRewritten a p_b c keep = some r) : Spec (wcalls atab (d + 9)) 12 [(l_LB a), (l_LB p_b), (l_LB c), (.int .i64 keep)] [] (out_osmosislaw5_WalRewritten a p_b c keep r).1 (out_osmosislaw5_WalRewritten a p_b c keep r).2 := by
  obtain ⟨x1, hx1⟩ := wx (disk_New)
  obtain ⟨x2, hx2⟩ := wx (wal_Open x1)
  obtain ⟨x4, hx4⟩ := wx (osmosislaw5_WalRewritten_J0 a p_b c keep x2)
  obtain ⟨x6, hx6⟩ := wx (osmosislaw5_some a)
  obtain ⟨x7, hx7⟩ := wx (osmosislaw5_some p_b)
  obtain ⟨x8, hx8⟩ := wx (wal_Log_Add x6 x2.1 x2.2)
  obtain ⟨x16, hx16⟩ := wx (osmosislaw5_WalRewritten_J1 x7 x2 x8 c keep)
  obtain ⟨x18, hx18⟩ := wx (disk_Disk_Size ((getR x16).1) ((getR x16).2))
  obtain ⟨x19, hx19⟩ := wx (osmosislaw5_some c)
  obtain ⟨x20, hx20⟩ := wx (wal_Log_Add x19 ((getR x16).1) ((getR x16).2))
  obtain ⟨x21, hx21⟩ := wx (osmosishand_Pick keep 9)
  obtain ⟨x22, hx22⟩ := wx (disk_Disk_Crash x21 ((getR x16).1) x20.2)
  obtain ⟨x23, hx23⟩ := wx (wal_Open_2 x22.2.1 x22.2.2)
  obtain ⟨x24, hx24⟩ := wx (wal_Log_Records x23.1 x23.2)
  obtain ⟨x25, hx25⟩ := wx (wal_Log_Records x23.1 x23.2)
  obtain ⟨x26, hx26⟩ := wx (slI x25 0 (x7.length : Int))
  obtain ⟨x27, hx27⟩ := wx (osmosislaw5_same x26 x7)
  obtain ⟨x28, hx28⟩ := wx (disk_Disk_Size x23.1 x23.2)
  obtain ⟨x29, hx29⟩ := wx (disk_Disk_Size x23.1 x23.2)
  obtain ⟨x30, hx30⟩ := wx (disk_Disk_Size x23.1 x23.2)
  have e : ∀ C : ACalls, wBody C (fun _ => none) KK WF12 [(l_LB a), (l_LB p_b), (l_LB c), (.int .i64 keep)] [] (.call [] (some false) [] (.ptr (some (0, 0))) [(some (.cells [(.slice none 1 0 0 true), (.int .i64 x1)] false false))] (.call [] none [] (.ptr (some (1, 0))) [(some (.cells [(.acc 2 0 1 x2.2.length true), (.int .i64 x2.1)] false false)), (some (.cells [(.ptr (some (0, 0)))] false false)), (some (.cells (F_B x2.2) false true))] (.ite (isL x4) (.jn [0, 1, 2, 3, 9, 10] [none, none, none, none, none, none] [] [] .ret [(8, (.bool false))] [] (.fin (some false) [] none)) (.jn [0, 1, 2, 3, 9, 10] [none, none, none, none, none, none] [] [] .normal [(0, (l_LB a)), (1, (l_LB p_b)), (2, (l_LB c)), (3, (.int .i64 keep)), (9, (.ptr (some (0, 0)))), (10, (.ptr (some (1, 0))))] [(some (.cells [(.acc 2 0 1 x2.2.length true), (.int .i64 x2.1)] false false)), (some (.cells [(.ptr (some (0, 0)))] false false)), (some (.cells (F_B x2.2) false true))] (.call [] (some false) [] (l_LB x6) [] (.call [] (some false) [] (l_LB x7) [] (.call [] none [] (.bool x8.1) [(some (.cells [(.ptr (some (1, 0)))] false false)), (some (.cells [(.acc 3 0 1 x8.2.length true), (.int .i64 x2.1)] false false)), none, (some (.cells (F_B x8.2) false true))] (.ite (isL x16) (.jn [2, 3, 9, 10, 12] [none, none, none, none, none] [] [] .ret [(8, (.bool false))] [] (.fin (some false) [] none)) (.jn [2, 3, 9, 10, 12] [none, none, none, none, none] [] [] .normal [(2, (l_LB c)), (3, (.int .i64 keep)), (9, (.ptr (some (0, 0)))), (10, (.ptr (some (1, 0)))), (12, (l_LB x7))] [(some (.cells [(.acc 2 0 1 (((getR x16).2).length) true), (.int .i64 ((getR x16).1))] false false)), (some (.cells [(.ptr (some (0, 0)))] false false)), (some (.cells (F_B ((getR x16).2)) false true))] (.call [] none [] (.int .i64 x18) [(some (.cells [(.acc 1 0 1 (((getR x16).2).length) true), (.int .i64 ((getR x16).1))] false false)), (some (.cells (F_B ((getR x16).2)) false true))] (.call [] (some false) [] (l_LB x19) [] (.call [] none [] (.bool x20.1) [(some (.cells [(.ptr (some (1, 0)))] false false)), (some (.cells [(.acc 3 0 1 x20.2.length true), (.int .i64 ((getR x16).1))] false false)), none, (some (.cells (F_B x20.2) false true))] (.cb [] [] (.int .i64 x21) (.call [] none [] (.int .i64 x22.1) [(some (.cells [(.acc 2 0 1 x22.2.2.length true), (.int .i64 x22.2.1)] false false)), none, (some (.cells (F_B x22.2.2) false true))] (.call [] none [] (.ptr (some (2, 0))) [(some (.cells [(.acc 3 0 1 x23.2.length true), (.int .i64 x23.1)] false false)), none, (some (.cells [(.ptr (some (0, 0)))] false false)), (some (.cells (F_B x23.2) false true))] (.br 94 (.call [] none [] (l_LB x24) [(some (.cells [(.ptr (some (1, 0)))] false false)), (some (.cells [(.acc 2 0 1 x23.2.length true), (.int .i64 x23.1)] false false)), (some (.cells (F_B x23.2) false true))] (.br 102 (.call [] none [] (l_LB x25) [(some (.cells [(.ptr (some (1, 0)))] false false)), (some (.cells [(.acc 2 0 1 x23.2.length true), (.int .i64 x23.1)] false false)), (some (.cells (F_B x23.2) false true))] (.v 107 (l_LB x26) (.cb [] [] (.bool x27) (.br 111 (.call [] none [] (.int .i64 x28) [(some (.cells [(.acc 1 0 1 x23.2.length true), (.int .i64 x23.1)] false false)), (some (.cells (F_B x23.2) false true))] (.br 120 (.call [] none [] (.int .i64 x29) [(some (.cells [(.acc 1 0 1 x23.2.length true), (.int .i64 x23.1)] false false)), (some (.cells (F_B x23.2) false true))] (.call [] none [] (.int .i64 x30) [(some (.cells [(.acc 1 0 1 x23.2.length true), (.int .i64 x23.1)] false false)), (some (.cells (F_B x23.2) false true))] (.fin (some false) [] none))) (.fin (some false) [] none))) (.fin (some false) [] none))))) (.fin (some false) [] none))) (.fin (some false) [] none))))))))))))))))) (out_osmosislaw5_WalRewritten a p_b c keep r).1 (out_osmosislaw5_WalRewritten a p_b c keep r).2 = (4 = 4 ∧ 4 ≤ 130 ∧ (Spec C 30 [] [] (.ptr (some (0, 0))) [(some (.cells [(.slice none 1 0 0 true), (.int .i64 x1)] false false))] ∧ (0 ≤ 1 ∧ (Spec C 31 [(.ptr (some (0, 0)))] [(some (.cells [(.slice none 1 0 0 true), (.int .i64 x1)] false false))] (.ptr (some (1, 0))) [(some (.cells [(.acc 2 0 1 x2.2.length true), (.int .i64 x2.1)] false false)), (some (.cells [(.ptr (some (0, 0)))] false false)), (some (.cells (F_B x2.2) false true))] ∧ (1 ≤ 3 ∧ (((isL x4) = true → (RunS (bexec C KK 130 WJ12_bbba) 0 [(0, (l_LB a)), (1, (l_LB p_b)), (2, (l_LB c)), (3, (.int .i64 keep)), (9, (.ptr (some (0, 0)))), (10, (.ptr (some (1, 0))))] [(some (.cells [(.acc 2 0 1 x2.2.length true), (.int .i64 x2.1)] false false)), (some (.cells [(.ptr (some (0, 0)))] false false)), (some (.cells (F_B x2.2) false true))] .ret [(8, (.bool false))] [] ∧ lff (out_osmosislaw5_WalRewritten a p_b c keep) false r)) ∧ ((isL x4) = false → (RunS (bexec C KK 130 WJ12_bbba) 0 [(0, (l_LB a)), (1, (l_LB p_b)), (2, (l_LB c)), (3, (.int .i64 keep)), (9, (.ptr (some (0, 0)))), (10, (.ptr (some (1, 0))))] [(some (.cells [(.acc 2 0 1 x2.2.length true), (.int .i64 x2.1)] false false)), (some (.cells [(.ptr (some (0, 0)))] false false)), (some (.cells (F_B x2.2) false true))] .normal [(0, (l_LB a)), (1, (l_LB p_b)), (2, (l_LB c)), (3, (.int .i64 keep)), (9, (.ptr (some (0, 0)))), (10, (.ptr (some (1, 0))))] [(some (.cells [(.acc 2 0 1 x2.2.length true), (.int .i64 x2.1)] false false)), (some (.cells [(.ptr (some (0, 0)))] false false)), (some (.cells (F_B x2.2) false true))] ∧ (Spec C 33 [(l_LB a)] [] (l_LB x6) [] ∧ (0 ≤ 0 ∧ (Spec C 33 [(l_LB p_b)] [] (l_LB x7) [] ∧ (0 ≤ 0 ∧ (Spec C 35 [(.ptr (some (0, 0))), (l_LB x6)] [(some (.cells [(.ptr (some (1, 0)))] false false)), (some (.cells [(.acc 2 0 1 x2.2.length true), (.int .i64 x2.1)] false false)), (some (.cells (F_B x2.2) false true))] (.bool x8.1) [(some (.cells [(.ptr (some (1, 0)))] false false)), (some (.cells [(.acc 3 0 1 x8.2.length true), (.int .i64 x2.1)] false false)), none, (some (.cells (F_B x8.2) false true))] ∧ (3 ≤ 4 ∧ (((isL x16) = true → (RunS (bexec C KK 130 WJ12_bbbbbbba) 0 [(2, (l_LB c)), (3, (.int .i64 keep)), (9, (.ptr (some (0, 0)))), (10, (.ptr (some (1, 0)))), (12, (l_LB x7))] [(some (.cells [(.acc 2 0 1 x8.2.length true), (.int .i64 x2.1)] false false)), (some (.cells [(.ptr (some (0, 0)))] false false)), (some (.cells (F_B x8.2) false true))] .ret [(8, (.bool false))] [] ∧ lff (out_osmosislaw5_WalRewritten a p_b c keep) false r)) ∧ ((isL x16) = false → (RunS (bexec C KK 130 WJ12_bbbbbbba) 0 [(2, (l_LB c)), (3, (.int .i64 keep)), (9, (.ptr (some (0, 0)))), (10, (.ptr (some (1, 0)))), (12, (l_LB x7))] [(some (.cells [(.acc 2 0 1 x8.2.length true), (.int .i64 x2.1)] false false)), (some (.cells [(.ptr (some (0, 0)))] false false)), (some (.cells (F_B x8.2) false true))] .normal [(2, (l_LB c)), (3, (.int .i64 keep)), (9, (.ptr (some (0, 0)))), (10, (.ptr (some (1, 0)))), (12, (l_LB x7))] [(some (.cells [(.acc 2 0 1 (((getR x16).2).length) true), (.int .i64 ((getR x16).1))] false false)), (some (.cells [(.ptr (some (0, 0)))] false false)), (some (.cells (F_B ((getR x16).2)) false true))] ∧ (Spec C 39 [(.ptr (some (0, 0)))] [(some (.cells [(.acc 1 0 1 (((getR x16).2).length) true), (.int .i64 ((getR x16).1))] false false)), (some (.cells (F_B ((getR x16).2)) false true))] (.int .i64 x18) [(some (.cells [(.acc 1 0 1 (((getR x16).2).length) true), (.int .i64 ((getR x16).1))] false false)), (some (.cells (F_B ((getR x16).2)) false true))] ∧ (2 ≤ 2 ∧ (Spec C 33 [(l_LB c)] [] (l_LB x19) [] ∧ (0 ≤ 0 ∧ (Spec C 35 [(.ptr (some (0, 0))), (l_LB x19)] [(some (.cells [(.ptr (some (1, 0)))] false false)), (some (.cells [(.acc 2 0 1 (((getR x16).2).length) true), (.int .i64 ((getR x16).1))] false false)), (some (.cells (F_B ((getR x16).2)) false true))] (.bool x20.1) [(some (.cells [(.ptr (some (1, 0)))] false false)), (some (.cells [(.acc 3 0 1 x20.2.length true), (.int .i64 ((getR x16).1))] false false)), none, (some (.cells (F_B x20.2) false true))] ∧ (3 ≤ 4 ∧ (Spec C 28 [(.int .i64 keep), (.int .i64 9)] [] (.int .i64 x21) [] ∧ (Spec C 41 [(.ptr (some (0, 0))), (.int .i64 x21)] [(some (.cells [(.acc 1 0 1 x20.2.length true), (.int .i64 ((getR x16).1))] false false)), (some (.cells (F_B x20.2) false true))] (.int .i64 x22.1) [(some (.cells [(.acc 2 0 1 x22.2.2.length true), (.int .i64 x22.2.1)] false false)), none, (some (.cells (F_B x22.2.2) false true))] ∧ (2 ≤ 3 ∧ (Spec C 31 [(.ptr (some (0, 0)))] [(some (.cells [(.acc 1 0 1 x22.2.2.length true), (.int .i64 x22.2.1)] false false)), (some (.cells (F_B x22.2.2) false true))] (.ptr (some (2, 0))) [(some (.cells [(.acc 3 0 1 x23.2.length true), (.int .i64 x23.1)] false false)), none, (some (.cells [(.ptr (some (0, 0)))] false false)), (some (.cells (F_B x23.2) false true))] ∧ (2 ≤ 4 ∧ (((decide (x22.1 ≤ 8)) = true → (Spec C 36 [(.ptr (some (0, 0)))] [(some (.cells [(.ptr (some (1, 0)))] false false)), (some (.cells [(.acc 2 0 1 x23.2.length true), (.int .i64 x23.1)] false false)), (some (.cells (F_B x23.2) false true))] (l_LB x24) [(some (.cells [(.ptr (some (1, 0)))] false false)), (some (.cells [(.acc 2 0 1 x23.2.length true), (.int .i64 x23.1)] false false)), (some (.cells (F_B x23.2) false true))] ∧ (3 ≤ 3 ∧ (((decide ((x24.length : Int) ≥ (x7.length : Int))) = true → (Spec C 36 [(.ptr (some (0, 0)))] [(some (.cells [(.ptr (some (1, 0)))] false false)), (some (.cells [(.acc 2 0 1 x23.2.length true), (.int .i64 x23.1)] false false)), (some (.cells (F_B x23.2) false true))] (l_LB x25) [(some (.cells [(.ptr (some (1, 0)))] false false)), (some (.cells [(.acc 2 0 1 x23.2.length true), (.int .i64 x23.1)] false false)), (some (.cells (F_B x23.2) false true))] ∧ (3 ≤ 3 ∧ (wP (.slice 1 (.c (l_LB x25)) none (some (.c (.int .i64 (x7.length : Int)))) none) = some (l_LB x26) ∧ (Spec C 37 [(l_LB x26), (l_LB x7)] [] (.bool x27) [] ∧ ((x27 = true → (Spec C 39 [(.ptr (some (0, 0)))] [(some (.cells [(.acc 1 0 1 x23.2.length true), (.int .i64 x23.1)] false false)), (some (.cells (F_B x23.2) false true))] (.int .i64 x28) [(some (.cells [(.acc 1 0 1 x23.2.length true), (.int .i64 x23.1)] false false)), (some (.cells (F_B x23.2) false true))] ∧ (2 ≤ 2 ∧ (((decide (x28 ≥ x18)) = true → (Spec C 39 [(.ptr (some (0, 0)))] [(some (.cells [(.acc 1 0 1 x23.2.length true), (.int .i64 x23.1)] false false)), (some (.cells (F_B x23.2) false true))] (.int .i64 x29) [(some (.cells [(.acc 1 0 1 x23.2.length true), (.int .i64 x23.1)] false false)), (some (.cells (F_B x23.2) false true))] ∧ (2 ≤ 2 ∧ (Spec C 39 [(.ptr (some (0, 0)))] [(some (.cells [(.acc 1 0 1 x23.2.length true), (.int .i64 x23.1)] false false)), (some (.cells (F_B x23.2) false true))] (.int .i64 x30) [(some (.cells [(.acc 1 0 1 x23.2.length true), (.int .i64 x23.1)] false false)), (some (.cells (F_B x23.2) false true))] ∧ (2 ≤ 2 ∧ lff (out_osmosislaw5_WalRewritten a p_b c keep) (x29 == x30) r))))) ∧ ((decide (x28 ≥ x18)) = false → lff (out_osmosislaw5_WalRewritten a p_b c keep) false r))))) ∧ (x27 = false → lff (out_osmosislaw5_WalRewritten a p_b c keep) false r))))))) ∧ ((decide ((x24.length : Int) ≥ (x7.length : Int))) = false → lff (out_osmosislaw5_WalRewritten a p_b c keep) false r))))) ∧ ((decide (x22.1 ≤ 8)) = false → lff (out_osmosislaw5_WalRewritten a p_b c keep) false r)))))))))))))))))))))))))))))) := fun C => by kernel_rfl
  refine spec_of (fun _ _ h => by cases h) rfl atab_12 WF12_ok ((e _).mpr ⟨rfl, by decide, ?_⟩)
  unfold osmosislaw5_WalRewritten at h
  obtain ⟨q1, h⟩ := bget hx1 h
  refine ⟨s_disk_New (d + 7) q1, ?_⟩
  refine ⟨by decide, ?_⟩
  obtain ⟨q2, h⟩ := bget hx2 h
  refine ⟨s_wal_Open (d + 1) q2, ?_⟩
  refine ⟨by decide, ?_⟩
  obtain ⟨q4, h⟩ := bget hx4 h
  refine ⟨fun hb5 => ?_, fun hb5 => ?_⟩
  · have h := cond_t hb5 h
    refine ⟨by have h := s_osmosislaw5_WalRewritten_J0 (d + 0) q4; rw [isL_t hb5] at h; exact h, ?_⟩
    exact lff_of h
  · have h := cond_f hb5 h
    refine ⟨by have h := s_osmosislaw5_WalRewritten_J0 (d + 0) q4; rw [isL_f hb5] at h; exact h, ?_⟩
    obtain ⟨q6, h⟩ := bget hx6 h
    refine ⟨s_osmosislaw5_some (d + 6) q6, ?_⟩
    refine ⟨by decide, ?_⟩
    obtain ⟨q7, h⟩ := bget hx7 h
    refine ⟨s_osmosislaw5_some (d + 6) q7, ?_⟩
    refine ⟨by decide, ?_⟩
    obtain ⟨q8, h⟩ := bget hx8 h
    refine ⟨s_wal_Log_Add (d + 3) q8, ?_⟩
    refine ⟨by decide, ?_⟩
    obtain ⟨q16, h⟩ := bget hx16 h
    refine ⟨fun hb17 => ?_, fun hb17 => ?_⟩
    · have h := cond_t hb17 h
      refine ⟨by have h := s_osmosislaw5_WalRewritten_J1 (d + 3) q16; rw [isL_t hb17] at h; exact h, ?_⟩
      exact lff_of h
    · have h := cond_f hb17 h
      refine ⟨by have h := s_osmosislaw5_WalRewritten_J1 (d + 3) q16; rw [isL_f hb17] at h; exact h, ?_⟩
      obtain ⟨q18, h⟩ := bget hx18 h
      refine ⟨s_disk_Disk_Size (d + 7) q18, ?_⟩
      refine ⟨by decide, ?_⟩
      obtain ⟨q19, h⟩ := bget hx19 h
      refine ⟨s_osmosislaw5_some (d + 6) q19, ?_⟩
      refine ⟨by decide, ?_⟩
      obtain ⟨q20, h⟩ := bget hx20 h
      refine ⟨s_wal_Log_Add (d + 3) q20, ?_⟩
      refine ⟨by decide, ?_⟩
      obtain ⟨q21, h⟩ := bget hx21 h
      refine ⟨s_osmosishand_Pick (d + 7) q21, ?_⟩
      obtain ⟨q22, h⟩ := bget hx22 h
      refine ⟨s_disk_Disk_Crash (d + 7) q22, ?_⟩
      refine ⟨by decide, ?_⟩
      obtain ⟨q23, h⟩ := bget hx23 h
      refine ⟨s_wal_Open_2 (d + 1) q23, ?_⟩
      refine ⟨by decide, ?_⟩
      refine ⟨fun hb => ?_, fun hb => ?_⟩
      · have h := cond_t hb h
        obtain ⟨q24, h⟩ := bget hx24 h
        refine ⟨s_wal_Log_Records (d + 1) q24, ?_⟩
        refine ⟨by decide, ?_⟩
        refine ⟨fun hb => ?_, fun hb => ?_⟩
        · have h := cond_t hb h
          obtain ⟨q25, h⟩ := bget hx25 h
          refine ⟨s_wal_Log_Records (d + 1) q25, ?_⟩
          refine ⟨by decide, ?_⟩
          obtain ⟨q26, h⟩ := bget hx26 h
          refine ⟨wP_sl_h R_LB q26, ?_⟩
          obtain ⟨q27, h⟩ := bget hx27 h
          refine ⟨s_osmosislaw5_same (d + 7) q27, ?_⟩
          refine ⟨fun hb => ?_, fun hb => ?_⟩
          · have h := cond_t hb h
            obtain ⟨q28, h⟩ := bget hx28 h
            refine ⟨s_disk_Disk_Size (d + 7) q28, ?_⟩
            refine ⟨by decide, ?_⟩
            refine ⟨fun hb => ?_, fun hb => ?_⟩
            · have h := cond_t hb h
              obtain ⟨q29, h⟩ := bget hx29 h
              refine ⟨s_disk_Disk_Size (d + 7) q29, ?_⟩
              refine ⟨by decide, ?_⟩
              obtain ⟨q30, h⟩ := bget hx30 h
              refine ⟨s_disk_Disk_Size (d + 7) q30, ?_⟩
              refine ⟨by decide, ?_⟩
              exact lff_of h
            · have h := cond_f hb h
              exact lff_of h
          · have h := cond_f hb h
            exact lff_of h
        · have h := cond_f hb h
          exact lff_of h
      · have h := cond_f hb h
        exact lff_of h

end Go.Proofs.Ytachollgbplikaa
