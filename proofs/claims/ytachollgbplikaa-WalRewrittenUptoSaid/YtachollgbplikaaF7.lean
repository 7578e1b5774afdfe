/- The law WalRewritten: its Lean function tells true. -/
import Derived.Test.YtachollgbplikaaF5
set_option linter.all false
set_option linter.unusedSimpArgs false
namespace Go.Proofs.Ytachollgbplikaa

theorem osmosislaw5_WalRewritten_true (x0 : List (List UInt8)) (x1 : List (List UInt8)) (x2 : List (List UInt8)) (x3 : Int) (o0 : (okL (okL okT)) x0) (o1 : (okL (okL okT)) x1) (o2 : (okL (okL okT)) x2) (o3 : okI x3) (hb : (bkL (bkL bk1)) x0 + (bkL (bkL bk1)) x1 + (bkL (bkL bk1)) x2 + bk1 x3 ≤ 1048576) : osmosislaw5_WalRewritten x0 x1 x2 x3 = some true := by
  have hA := some5_enc x0
  have hB := some5_enc x1
  have hC := some5_enc x2
  have hAl := some5_le x0
  have hBl := some5_le x1
  have hCl := some5_le x2
  unfold osmosislaw5_WalRewritten
  rw [some5_plain, some5_plain, some5_plain]
  generalize some5 x0 = A at *
  generalize some5 x1 = B at *
  generalize some5 x2 = D at *
  have hA4 : ∀ z ∈ A, z.length ≤ 4000 := fun z hz => by have := hAl.2 z hz; omega
  have hB4 : ∀ z ∈ B, z.length ≤ 4000 := fun z hz => by have := hBl.2 z hz; omega
  have hD4 : ∀ z ∈ D, z.length ≤ 4000 := fun z hz => by have := hCl.2 z hz; omega
  have j0 : osmosislaw5_WalRewritten_J0 x0 x1 x2 x3 (0, []) = some (.inr ()) := by
    unfold osmosislaw5_WalRewritten_J0
    rw [known5]
    rfl
  rw [new_plain, Option.bind_some, open_new, Option.bind_some, j0, Option.bind_some]
  simp only [isL, cond_false, Option.bind_some]
  rw [add_plain A _ _ (by omega) hA4 (by simp; omega), Option.bind_some]
  have j1 : ∀ (x : Bool × List UInt8), osmosislaw5_WalRewritten_J1 B (0, []) x x2 x3 = some (.inr (((encF B).length : Int), encF B)) := fun x => by
    unfold osmosislaw5_WalRewritten_J1
    rw [rewrite_plain B _ _ (by omega) hB4 (by omega), Option.bind_some]
    simp only [Bool.not_true, cond_false, disk_Disk_Size, disk_Disk_Synced, Option.bind_some]
    rw [bne_f rfl]
    rfl
  rw [j1, Option.bind_some]
  simp only [isL, getR, cond_false, disk_Disk_Size, Option.bind_some]
  rw [add_plain D _ _ (by omega) hD4 (by omega), Option.bind_some]
  obtain ⟨k, hk, hk2⟩ := pick_nat x3 9 (by omega) (by omega)
  rw [show (9 : Int) = ((9 : Nat) : Int) from rfl, hk, Option.bind_some, crash_plain k _ _ (by rw [List.length_append]; omega) (by rw [List.length_append]; omega) (by omega), Option.bind_some]
  have e2 : (encF B ++ encF D).length - (encF B).length = (encF D).length := by rw [List.length_append]; omega
  have e3 : (encF B ++ encF D).take ((encF B).length + min k (encF D).length) = encF B ++ (encF D).take k := by
    have e4 : (encF D).take (min k (encF D).length) = (encF D).take k := by
      rw [List.take_eq_take_iff]
      omega
    rw [List.take_append, List.take_of_length_le (by omega), Nat.add_sub_cancel_left, e4]
  have hr := open_reads B D k hB4 hD4
  have hc := cutF_le D k
  have hl5 : (encF (B ++ D.take (cutF D k).1)).length < 1000 := by
    rw [encF_app, List.length_append]
    have := encF_bound 60 (by omega) (D.take (cutF D k).1) (fun z hz => hCl.2 z (List.mem_of_mem_take hz))
    simp at this
    omega
  rw [e2, e3, open_plain _ _ (by simp; omega), Option.bind_some, hr.1]
  simp only
  rw [hr.2, dec_t (by omega), cond_true, records_plain _ _ (by omega), Option.bind_some, readR_all _ (fun z hz => by
    rcases List.mem_append.1 hz with hz | hz
    · exact hB4 z hz
    · exact hD4 z (List.mem_of_mem_take hz))]
  simp only
  rw [dec_t (by simp; omega), cond_true, Option.bind_some, slI_to _ _ (by simp), Option.bind_some, List.take_left, same5_self _ (by omega), Option.bind_some, cond_true]
  rw [dec_t (by rw [encF_app, List.length_append]; omega), cond_true]
  simp

end Go.Proofs.Ytachollgbplikaa
