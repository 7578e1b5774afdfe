/- The law DiskKeeps: its Lean function tells true. -/
import Derived.Test.YteibgagdnidojaaD1
set_option linter.all false
set_option linter.unusedSimpArgs false
namespace Go.Proofs.Yteibgagdnidojaa

theorem dk_l1 (l : List (List UInt8)) (x1 : Int) (tail : List (List UInt8)) (keeps : List Int) (hl : l.length ≤ 6) (h : l.flatten.length ≤ 360) :
    osmosislaw4_DiskKeeps_L1 l x1 tail keeps ([], 0, []) = some (l.flatten, l.flatten) := by
  refine loop_run (fun i => ((l.take i).flatten, (i : Int), (l.take i).flatten)) l.length _ (fun i hi => ?_) ?_ (by omega)
  · have h3 := flat_len l i hi
    have h4 := flat_le l (i + 1)
    have h5 : (l.take (i + 1)).flatten = (l.take i).flatten ++ l[i] := by
      rw [List.take_succ_eq_append_getElem hi, List.flatten_append, List.flatten_cons, List.flatten_nil, List.append_nil]
    unfold osmosislaw4_DiskKeeps_L1_s
    simp only
    rw [dec_t (by omega), cond_true, getI_at hi, Option.bind_some, append1_plain _ _ _ (by omega), Option.bind_some, catS_plain _ _ (by omega), Option.bind_some, ← h5, wrap_id (by omega) (by omega), succ_cast]
  · unfold osmosislaw4_DiskKeeps_L1_s
    simp only
    rw [dec_f (by omega), cond_false, List.take_length]

theorem dk_l2 (l : List (List UInt8)) (s40 : List UInt8 × Int × Int × List UInt8) (tail : List (List UInt8)) (x41 : Int) (keeps : List Int) (b : List UInt8) (hl : l.length ≤ 6) (h : l.flatten.length ≤ 360) (hb : b.length ≤ 60000) :
    osmosislaw4_DiskKeeps_L2 l s40 tail x41 keeps ([], 0, b) = some (l.flatten, b ++ l.flatten) := by
  have e0 : (([] : List UInt8), (0 : Int), b) = ((l.take 0).flatten, ((0 : Nat) : Int), b ++ (l.take 0).flatten) := by simp
  unfold osmosislaw4_DiskKeeps_L2
  rw [e0]
  refine loop_run (fun i => ((l.take i).flatten, (i : Int), b ++ (l.take i).flatten)) l.length _ (fun i hi => ?_) ?_ (by omega)
  · have h3 := flat_len l i hi
    have h4 := flat_le l (i + 1)
    have h5 : (l.take (i + 1)).flatten = (l.take i).flatten ++ l[i] := by
      rw [List.take_succ_eq_append_getElem hi, List.flatten_append, List.flatten_cons, List.flatten_nil, List.append_nil]
    unfold osmosislaw4_DiskKeeps_L2_s
    simp only
    rw [dec_t (by omega), cond_true, getI_at hi, Option.bind_some, append1_plain _ _ _ (by rw [List.length_append]; omega), Option.bind_some, catS_plain _ _ (by omega), Option.bind_some, h5, wrap_id (by omega) (by omega), succ_cast, List.append_assoc]
  · unfold osmosislaw4_DiskKeeps_L2_s
    simp only
    rw [dec_f (by omega), cond_false, List.take_length]

theorem osmosislaw4_DiskKeeps_true (x0 : List (List UInt8)) (x1 : List (List UInt8)) (x2 : List Int) (o0 : (okL (okL okT)) x0) (o1 : (okL (okL okT)) x1) (o2 : (okL okI) x2) (hb : (bkL (bkL bk1)) x0 + (bkL (bkL bk1)) x1 + (bkL bk1) x2 ≤ 1048576) : osmosislaw4_DiskKeeps x0 x1 x2 = some true := by
  have hlen : x2.length < 1000000000 := by have := bkL_one' x2; omega
  have hA := some6_le x0
  have hT := some6_le x1
  have j0 : osmosislaw4_DiskKeeps_J0 x0 x1 x2 0 = some (.inr ()) := by
    unfold osmosislaw4_DiskKeeps_J0
    rw [known4]
    rfl
  unfold osmosislaw4_DiskKeeps
  rw [new_plain, Option.bind_some, j0, Option.bind_some]
  simp only [isL, cond_false]
  rw [some6_plain, Option.bind_some]
  generalize some6 x0 = A at *
  have ht : osmosislaw4_some x1 = some (some6 x1) := some6_plain x1
  generalize some6 x1 = T at *
  rw [dk_l1 A _ _ _ hA.1 hA.2.1, Option.bind_some]
  simp only [disk_Disk_Sync, Option.bind_some]
  have key : ∃ e, osmosislaw4_DiskKeeps_L5 x2 x1 (A.flatten, 0, (A.flatten.length : Int), A.flatten) = some e ∧ (e = .inl true ∨ e = .inr ()) := by
    refine loopX_inv (fun (s : List UInt8 × Int × Int × List UInt8) => x2.length - s.2.1.toNat) (fun s => ∃ (i : Nat) (a : List UInt8), s = (a, (i : Int), (a.length : Int), a) ∧ i ≤ x2.length ∧ a.length ≤ 30000) _ ?_ KK _ ⟨0, A.flatten, rfl, by omega, by omega⟩ (by have := KK_big; simp only; omega)
    rintro s ⟨i, a, rfl, h1, h2⟩
    simp only [osmosislaw4_DiskKeeps_L5_s]
    by_cases hi : i < x2.length
    case neg =>
      right
      rw [dec_f (by omega), cond_false]
      exact ⟨_, rfl, .inr rfl⟩
    rw [dec_t (by omega), cond_true, getI_at hi, Option.bind_some, ht, Option.bind_some, dk_l2 T _ _ _ _ _ hT.1 hT.2.1 (by omega), Option.bind_some]
    have hTl := hT.2.1
    generalize T.flatten = t at *
    have j3 : ∀ y, osmosislaw4_DiskKeeps_J3 (a, (i : Int), (a.length : Int), a) (t, a ++ t) x1 y x2 = some (.inr ()) := fun y => by
      unfold osmosislaw4_DiskKeeps_J3 disk_Disk_Size disk_Disk_Synced
      simp only [Option.bind_some]
      rw [bne_f (by rw [wrap_id (by omega) (by omega), List.length_append]; omega), cond_false, bne_f rfl, cond_false]
    rw [j3, Option.bind_some]
    simp only [isL, cond_false]
    have w9 : IntKind.i64.wrap ((t.length : Int) + 9) = ((t.length + 9 : Nat) : Int) := by rw [wrap_id (by omega) (by omega)]; omega
    rw [w9]
    obtain ⟨p, hp, hp2⟩ := pick_nat x2[i] (t.length + 9) (by omega) (by omega)
    rw [hp, Option.bind_some, Option.bind_some, wrap_id (x := (p : Int) - 3) (by omega) (by omega)]
    obtain ⟨k, hk, hk2⟩ := kp_nat ((p : Int) - 3) t.length
    have hl : (a ++ t).length - a.length = t.length := by rw [List.length_append]; omega
    rw [crash_plain ((p : Int) - 3) a.length k (a ++ t) (by rw [List.length_append]; omega) (by rw [List.length_append]; omega) (by rw [hl]; exact hk) (by omega), Option.bind_some]
    unfold kp at hk
    rw [hk]
    simp only
    rw [bne_f rfl, cond_false, slI_to t k hk2, Option.bind_some, catS_plain _ _ (by simp; omega), Option.bind_some]
    have e1 : (a ++ t).take (a.length + k) = a ++ t.take k := by rw [List.take_append, List.take_of_length_le (by omega), Nat.add_sub_cancel_left]
    have e2 : (a ++ t.take k).length = a.length + k := by rw [List.length_append, List.length_take]; omega
    have j4 : osmosislaw4_DiskKeeps_J4 ((k : Int), ((a.length + k : Nat) : Int), a ++ t.take k) (a ++ t.take k) x1 x2 (a, (i : Int), (a.length : Int), a) = some (decide (((a ++ t.take k).length : Int) > 30000)) := by
      unfold osmosislaw4_DiskKeeps_J4 disk_Disk_Bytes disk_Disk_Synced
      simp only
      rw [gd_fits1 (by omega), Option.bind_some]
      simp only [beq_self_eq_true, Bool.not_true, cond_false, Option.bind_some]
      rw [bne_f (by rw [e2]), cond_false]
    rw [e1, j4, Option.bind_some]
    by_cases c : 30000 < (a ++ t.take k).length
    · right
      rw [dec_t (by omega), cond_true]
      exact ⟨_, rfl, .inl rfl⟩
    · left
      rw [dec_f (by omega), cond_false, wrap_id (by omega) (by omega)]
      refine ⟨_, rfl, ⟨i + 1, a ++ t.take k, by rw [e2]; simp, by omega, by omega⟩, by simp only; omega⟩
  obtain ⟨e, e1, e2⟩ := key
  rw [e1, Option.bind_some]
  rcases e2 with rfl | rfl <;> rfl

end Go.Proofs.Yteibgagdnidojaa
