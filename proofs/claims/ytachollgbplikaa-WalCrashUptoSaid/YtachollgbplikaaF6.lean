/- The law WalCrash: its Lean function tells true. -/
import Derived.Test.YtachollgbplikaaF5
set_option linter.all false
set_option linter.unusedSimpArgs false
namespace Go.Proofs.Ytachollgbplikaa

def endsOf (B : List (List UInt8)) (i : Nat) : List Int := (List.range i).map fun k => (((encF (B.take (k + 1))).length : Nat) : Int)
theorem endsOf_len (B : List (List UInt8)) (i : Nat) : (endsOf B i).length = i := by simp [endsOf]

theorem wc_l1 (A B : List (List UInt8)) (x : Int) (keep : Int) (hA : (encF A).length ≤ 385) (hB : B.length ≤ 5) (hz : ∀ z ∈ B, z.length ≤ 60) :
    osmosislaw5_WalCrash_L1 B (x, ((encF A).length : Int)) keep A (0, [], encF A) = some (.inr (endsOf B B.length, encF A ++ encF B)) := by
  have hbb := encF_bound 60 (by omega) B hz
  have hle : ∀ i, (encF (B.take i)).length ≤ (encF B).length := fun i => by
    conv => rhs; rw [← List.take_append_drop i B, encF_app, List.length_append]
    omega
  have e0 : ((0 : Int), ([] : List Int), encF A) = (((0 : Nat) : Int), endsOf B 0, encF A ++ encF (B.take 0)) := by simp [encF, endsOf]
  unfold osmosislaw5_WalCrash_L1
  rw [e0]
  refine loop_run (fun i => ((i : Int), endsOf B i, encF A ++ encF (B.take i))) B.length _ (fun i hi => ?_) ?_ (by omega)
  · have h1 := hle (i + 1)
    have h2 : encF (B.take (i + 1)) = encF (B.take i) ++ encF [B[i]] := by rw [List.take_succ_eq_append_getElem hi, encF_app]
    have h3 : (encF (B.take (i + 1))).length = (encF (B.take i)).length + (encF [B[i]]).length := by rw [h2, List.length_append]
    unfold osmosislaw5_WalCrash_L1_s
    simp only
    rw [dec_t (by omega), cond_true, getI_at hi, Option.bind_some, add_plain _ _ _ (by simp) (by simp; have := hz B[i] (List.getElem_mem _); omega) (by rw [List.length_append]; omega), Option.bind_some]
    simp only [Bool.not_true, cond_false, disk_Disk_Size, disk_Disk_Synced, Option.bind_some]
    have e1 : encF A ++ encF (B.take i) ++ encF [B[i]] = encF A ++ encF (B.take (i + 1)) := by rw [h2, List.append_assoc]
    rw [e1]
    have e2 : IntKind.i64.wrap (((encF A ++ encF (B.take (i + 1))).length : Int) - ((encF A).length : Int)) = (((encF (B.take (i + 1))).length : Nat) : Int) := by
      rw [List.length_append, wrap_id (by omega) (by omega)]
      omega
    have e3 : endsOf B i ++ [(((encF (B.take (i + 1))).length : Nat) : Int)] = endsOf B (i + 1) := by
      unfold endsOf
      rw [List.range_succ, List.map_append]
      rfl
    rw [e2, e3, gd_true (fits_le (by omega) (by rw [endsOf_len]; omega)), wrap_id (by omega) (by omega), succ_cast]
  · unfold osmosislaw5_WalCrash_L1_s
    simp only
    rw [dec_f (by omega), cond_false, List.take_length]

/-- So many records are whole as ends are behind. -/
theorem cut_ends : ∀ (B : List (List UInt8)) (k : Nat), (∀ i < (cutF B k).1, (encF (B.take (i + 1))).length ≤ k) ∧ ((cutF B k).1 < B.length → k < (encF (B.take ((cutF B k).1 + 1))).length)
  | [], k => by simp [cutF]
  | z :: B, k => by
    unfold cutF
    split
    · rename_i c
      obtain ⟨h1, h2⟩ := cut_ends B (k - (recF z).length)
      refine ⟨fun i hi => ?_, fun hi => ?_⟩
      · simp only at hi
        rw [List.take_succ_cons, encF_cons, List.length_append]
        cases i with
        | zero => simp [encF]; omega
        | succ i =>
          have := h1 i (by omega)
          omega
      · simp only [List.length_cons] at hi ⊢
        have := h2 (by omega)
        rw [List.take_succ_cons, encF_cons, List.length_append]
        omega
    · rename_i c
      refine ⟨fun i hi => by simp at hi, fun _ => ?_⟩
      simp [encF]
      omega

theorem wc_l2 (B : List (List UInt8)) (b : List UInt8) (k : Nat) (x6 x7 : List (List UInt8)) (x31 : Int × Int × List UInt8) (hB : B.length ≤ 5) :
    osmosislaw5_WalCrash_L2 (.inr (endsOf B B.length, b)) (k : Int) x6 x7 x31 0 = some ((cutF B k).1 : Int) := by
  have hc := cut_ends B k
  have hl := (cutF_le B k).1
  unfold osmosislaw5_WalCrash_L2
  refine loop_run (fun i => (i : Int)) (cutF B k).1 _ (fun i hi => ?_) ?_ (by omega)
  · show cond (decide ((i : Int) < ((endsOf B B.length).length : Int))) ((getI (endsOf B B.length) (i : Int)).bind fun x34 => cond (decide (x34 ≤ (k : Int))) (some (.inl (IntKind.i64.wrap ((i : Int) + 1)))) (some (.inr (i : Int)))) (some (.inr (i : Int))) = (some _ : Option (Int ⊕ Int))
    rw [dec_t (by rw [endsOf_len]; omega), cond_true, getI_at (by rw [endsOf_len]; omega), Option.bind_some]
    have : (endsOf B B.length)[i]'(by rw [endsOf_len]; omega) = (((encF (B.take (i + 1))).length : Nat) : Int) := by simp [endsOf]
    rw [this, dec_t (by have := hc.1 i hi; omega), cond_true, wrap_id (by omega) (by omega), succ_cast]
  · show cond (decide (((cutF B k).1 : Int) < ((endsOf B B.length).length : Int))) ((getI (endsOf B B.length) ((cutF B k).1 : Int)).bind fun x34 => cond (decide (x34 ≤ (k : Int))) (some (.inl (IntKind.i64.wrap (((cutF B k).1 : Int) + 1)))) (some (.inr ((cutF B k).1 : Int)))) (some (.inr ((cutF B k).1 : Int))) = (some _ : Option (Int ⊕ Int))
    by_cases q : (cutF B k).1 < B.length
    · rw [dec_t (by rw [endsOf_len]; omega), cond_true, getI_at (by rw [endsOf_len]; omega), Option.bind_some]
      have : (endsOf B B.length)[(cutF B k).1]'(by rw [endsOf_len]; omega) = (((encF (B.take ((cutF B k).1 + 1))).length : Nat) : Int) := by simp [endsOf]
      rw [this, dec_f (by have := hc.2 q; omega), cond_false]
    · rw [dec_f (by rw [endsOf_len]; omega), cond_false]

theorem osmosislaw5_WalCrash_true (x0 : List (List UInt8)) (x1 : List (List UInt8)) (x2 : Int) (o0 : (okL (okL okT)) x0) (o1 : (okL (okL okT)) x1) (o2 : okI x2) (hb : (bkL (bkL bk1)) x0 + (bkL (bkL bk1)) x1 + bk1 x2 ≤ 1048576) : osmosislaw5_WalCrash x0 x1 x2 = some true := by
  have hA := some5_enc x0
  have hB := some5_enc x1
  have hAl := some5_le x0
  have hBl := some5_le x1
  unfold osmosislaw5_WalCrash
  rw [some5_plain, some5_plain]
  generalize some5 x0 = A at *
  generalize some5 x1 = B at *
  have hA4 : ∀ z ∈ A, z.length ≤ 4000 := fun z hz => by have := hAl.2 z hz; omega
  have hB4 : ∀ z ∈ B, z.length ≤ 4000 := fun z hz => by have := hBl.2 z hz; omega
  have j0 : osmosislaw5_WalCrash_J0 x0 x1 x2 (0, []) = some (.inr ()) := by
    unfold osmosislaw5_WalCrash_J0
    rw [known5]
    rfl
  rw [new_plain, Option.bind_some, open_new, Option.bind_some, j0, Option.bind_some]
  simp only [isL, cond_false, Option.bind_some]
  rw [add_plain A _ _ (by omega) hA4 (by simp; omega), Option.bind_some]
  simp only [Bool.not_true, cond_false, disk_Disk_Sync, Option.bind_some, List.nil_append]
  rw [wc_l1 A B _ x2 hA hBl.1 hBl.2, Option.bind_some]
  simp only [isL, getR, cond_false, disk_Disk_Size, disk_Disk_Synced, Option.bind_some]
  have e1 : IntKind.i64.wrap (IntKind.i64.wrap (((encF A ++ encF B).length : Int) - ((encF A).length : Int)) + 1) = (((encF B).length + 1 : Nat) : Int) := by
    rw [List.length_append, wrap_id (x := (((encF A).length + (encF B).length : Nat) : Int) - ((encF A).length : Int)) (by omega) (by omega), wrap_id (by omega) (by omega)]
    omega
  rw [e1]
  obtain ⟨k, hk, hk2⟩ := pick_nat x2 ((encF B).length + 1) (by omega) (by omega)
  rw [hk, Option.bind_some, crash_plain k _ _ (by rw [List.length_append]; omega) (by rw [List.length_append]; omega) (by omega), Option.bind_some]
  have e2 : min k ((encF A ++ encF B).length - (encF A).length) = k := by rw [List.length_append]; omega
  have e3 : (encF A ++ encF B).take ((encF A).length + k) = encF A ++ (encF B).take k := by
    rw [List.take_append, List.take_of_length_le (by omega), Nat.add_sub_cancel_left]
  have hr := open_reads A B k hA4 hB4
  have hc := cutF_le B k
  rw [e2, e3, wc_l2 B _ k _ _ _ hBl.1, Option.bind_some, open_plain _ _ (by simp; omega), Option.bind_some, hr.1]
  simp only
  rw [hr.2, records_plain _ _ (by rw [encF_app, List.length_append]; have := encF_bound 60 (by omega) (B.take (cutF B k).1) (fun z hz => hBl.2 z (List.mem_of_mem_take hz)); simp at this; omega), Option.bind_some, readR_all _ (fun z hz => by
    rcases List.mem_append.1 hz with hz | hz
    · exact hA4 z hz
    · exact hB4 z (List.mem_of_mem_take hz))]
  simp only
  rw [gd_fits24 (by omega), slI_to B _ (by omega), Option.bind_some, gd_fits24 (by simp; omega), same5_self _ (by simp; omega), Option.bind_some, cond_true]
  simp only [Option.some.injEq, beq_iff_eq]
  have e4 : (encF (A ++ B.take (cutF B k).1)).length = (encF A).length + (cutF B k).2 := by rw [encF_app, List.length_append, hc.2.2]
  rw [e4, List.length_append, List.length_take]
  split
  · rw [wrap_id (by omega) (by omega)]
    omega
  · rw [wrap_id (by omega) (by omega)]
    omega

end Go.Proofs.Ytachollgbplikaa
