/- The law SessionTells: its Lean function tells true. -/
import Derived.Test.YteibgagdnidojaaS1
import Derived.Test.YteibgagdnidojaaXrSessionTells
set_option linter.all false
set_option linter.unusedSimpArgs false
namespace Go.Proofs.Yteibgagdnidojaa

def sessS (x : osmosislaw7_Raw) : api_Sess := (osmosislaw7_sess x).getD noneS
theorem sess_eq (x : osmosislaw7_Raw) : osmosislaw7_sess x = some (sessS x) := by
  obtain ⟨y, h⟩ := sess_some x
  unfold sessS
  rw [h]
  rfl

theorem bkL_len7 (l : List osmosislaw7_Raw) : l.length ≤ bkL bk_osmosislaw7_Raw l := by have := bkL_len (bk := bk_osmosislaw7_Raw) (fun x => by unfold bk_osmosislaw7_Raw; omega) l; omega

theorem osmosislaw7_SessionTells_true (x0 : List osmosislaw7_Raw) (x1 : List osmosislaw7_Raw) (o0 : (okL ok_osmosislaw7_Raw) x0) (o1 : (okL ok_osmosislaw7_Raw) x1) (hb : (bkL bk_osmosislaw7_Raw) x0 + (bkL bk_osmosislaw7_Raw) x1 ≤ 1048576) : osmosislaw7_SessionTells x0 x1 = some true := by
  have h0 : x0.length ≤ 1048576 := by have := bkL_len7 x0; omega
  have h1 : x1.length ≤ 1048576 := by have := bkL_len7 x1; omega
  have k0 : osmosislaw7_SessionTells_L0 x1 x0 (0, []) = some (x1.map sessS) := by
    refine loop_run (fun i => ((i : Int), (x1.take i).map sessS)) x1.length _ (fun i hi => ?_) ?_ (by omega)
    · have h2 : (x1.take i).length ≤ x1.length := by rw [List.length_take]; omega
      unfold osmosislaw7_SessionTells_L0_s
      simp only
      rw [dec_t (by omega), cond_true, getI_at hi, Option.bind_some, sess_eq, Option.bind_some, gd_true (by unfold fitsB; simp; omega), wrap_id (by omega) (by omega), succ_cast, List.take_succ_eq_append_getElem hi, List.map_append]
      rfl
    · unfold osmosislaw7_SessionTells_L0_s
      simp only
      rw [dec_f (by omega), cond_false, List.take_length]
  obtain ⟨s, e1, e2, e3⟩ := of_alike (x1.map sessS) (by rw [List.length_map]; omega)
  unfold osmosislaw7_SessionTells
  rw [k0, Option.bind_some, e1, Option.bind_some, e3, Option.bind_some]
  have key : osmosislaw7_SessionTells_L2 x0 (0, s, ⟨allOf s⟩) = some (.inr (x0.foldl (fun a x => noteS a (sessS x)) s, ⟨allOf (x0.foldl (fun a x => noteS a (sessS x)) s)⟩)) := by
    have hf : ∀ l : List osmosislaw7_Raw, ∀ a, GoodS a → GoodS (l.foldl (fun a x => noteS a (sessS x)) a) := by
      intro l
      induction l with
      | nil => exact fun a h => h
      | cons x l ih => exact fun a h => ih _ (noteS_good _ a h).2
    refine loop_run (fun i => ((i : Int), (x0.take i).foldl (fun a x => noteS a (sessS x)) s, (⟨allOf ((x0.take i).foldl (fun a x => noteS a (sessS x)) s)⟩ : osmosisref1_Sessions))) x0.length _ (fun i hi => ?_) ?_ (by omega)
    · rw [List.take_succ_eq_append_getElem hi, List.foldl_append]
      have g := hf (x0.take i) s e2
      generalize (x0.take i).foldl (fun a x => noteS a (sessS x)) s = a at *
      show osmosislaw7_SessionTells_L2_s x0 ((i : Int), a, ⟨allOf a⟩) = some (.inl (((i + 1 : Nat) : Int), noteS a (sessS x0[i]), ⟨allOf (noteS a (sessS x0[i]))⟩))
      obtain ⟨⟨b, q1, q2⟩, q3⟩ := noteS_good (sessS x0[i]) a g
      have hl := all_len a
      have hl' := all_len (noteS a (sessS x0[i]))
      have q4 := note3_plain (sessS x0[i]) ⟨allOf a⟩ (by simp only; omega)
      simp only [q2] at q4
      have j1 : osmosislaw7_SessionTells_J1 (sessS x0[i]) ((i : Int), a, ⟨allOf a⟩) x0 = some (.inr (noteS a (sessS x0[i]), ⟨allOf (noteS a (sessS x0[i]))⟩)) := by
        unfold osmosislaw7_SessionTells_J1
        simp only
        rw [q1, Option.bind_some, q4, Option.bind_some]
        simp only [beq_self_eq_true, Bool.not_true, cond_false]
        rw [all_plain, Option.bind_some, same_self _ (by omega), Option.bind_some]
        rfl
      unfold osmosislaw7_SessionTells_L2_s
      simp only
      rw [dec_t (by omega), cond_true, getI_at hi, Option.bind_some, sess_eq, Option.bind_some, j1, Option.bind_some]
      have l1 := last_alike (sessS x0[i]).Client (noteS a (sessS x0[i])) q3
      have l2 := last3_plain (sessS x0[i]).Client ⟨allOf (noteS a (sessS x0[i]))⟩ (by simp only; omega)
      generalize noteS a (sessS x0[i]) = n at *
      simp only [isL, cond_false, getR]
      rw [l1, Option.bind_some, l2, Option.bind_some]
      simp only [beq_self_eq_true, Bool.and_true, Bool.not_true]
      rw [cond_false, cond_false, wrap_id (by omega) (by omega), succ_cast]
    · unfold osmosislaw7_SessionTells_L2_s
      simp only
      rw [dec_f (by omega), cond_false, List.take_length]
  rw [key, Option.bind_some, known7, Option.bind_some]
  generalize x0.foldl (fun a x => noteS a (sessS x)) s = n
  simp only [isL, cond_false, cond_true, getR]
  rw [all_plain, Option.bind_some, same_self _ (Nat.lt_of_le_of_lt (all_len _) (by omega))]
  rfl
end Go.Proofs.Yteibgagdnidojaa
