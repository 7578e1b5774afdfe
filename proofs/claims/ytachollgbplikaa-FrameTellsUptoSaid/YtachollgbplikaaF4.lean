/- The law FrameTells: its Lean function tells true. -/
import Derived.Test.YtachollgbplikaaF3
import Derived.Test.YtachollgbplikaaY3
import Derived.Test.YtachollgbplikaaJ5
set_option linter.all false
set_option linter.unusedSimpArgs false
namespace Go.Proofs.Ytachollgbplikaa

theorem few200 (b : List UInt8) : osmosishand_Few b 200 = some (b.take 200) := by
  unfold osmosishand_Few
  by_cases c : 200 < b.length
  · rw [dec_t (by omega), cond_true, show (200 : Int) = ((200 : Nat) : Int) from rfl, slI_to b 200 (by omega), Option.bind_some, gd_fits1 (by simp; omega)]
  · rw [dec_f (by omega), cond_false, gd_fits1 (by omega), List.take_of_length_le (by omega)]

def some8 (l : List (List UInt8)) : List (List UInt8) := (l.take 8).map (·.take 200)
theorem some8_plain (l : List (List UInt8)) : osmosislaw3_some l = some (some8 l) := by
  unfold osmosislaw3_some
  have : osmosislaw3_some_L1 l (0, []) = some (some8 l) := by
    refine loop_run (fun i => ((i : Int), (l.take i).map (·.take 200))) (min 8 l.length) _ (fun i hi => ?_) ?_ (by omega)
    · have h1 : i < l.length := by omega
      unfold osmosislaw3_some_L1_s osmosislaw3_some_J0
      simp only
      rw [dec_t (by omega), cond_true, dec_t (by omega), cond_true, Option.bind_some]
      simp only [isL, cond_true]
      rw [getI_at h1, Option.bind_some, few200, Option.bind_some, gd_fits24 (by simp; omega), wrap_id (by omega) (by omega), List.take_succ_eq_append_getElem h1, List.map_append, succ_cast]
      rfl
    · unfold osmosislaw3_some_L1_s osmosislaw3_some_J0 some8
      simp only
      rcases Nat.lt_or_ge 8 l.length with q | q
      · rw [Nat.min_eq_left (by omega), dec_t (by omega), cond_true, dec_f (by omega), cond_false]
        rfl
      · rw [Nat.min_eq_right q, dec_f (by omega), cond_false, List.take_length, List.take_of_length_le q]
        rfl
  rw [this, Option.bind_some]
theorem some8_le (l : List (List UInt8)) : (some8 l).length ≤ 8 ∧ ∀ z ∈ some8 l, z.length ≤ 200 := by
  unfold some8
  refine ⟨by simp; omega, fun z hz => ?_⟩
  obtain ⟨y, _, rfl⟩ := List.mem_map.1 hz
  simp
  omega
theorem encF_bound (m : Nat) (hm : m ≤ 4000) : ∀ (l : List (List UInt8)), (∀ z ∈ l, z.length ≤ m) → (encF l).length ≤ (m + 17) * l.length
  | [], _ => by simp [encF]
  | z :: l, h => by
    have h1 := encF_bound m hm l fun y hy => h y (by simp [hy])
    have h2 := h z (by simp)
    have h3 := encN_le9 (x := z.length) (by omega)
    rw [encF_cons, List.length_append, recF_len, List.length_cons, Nat.mul_succ]
    omega
theorem rframe2_plain (b : List UInt8) (l : List (List UInt8)) (h : b.length + (encF l).length < 100000000) : osmosisref1_Frame_2 l b = some (b ++ encF l) := rframe_plain b l h
theorem known3 : osmosislaw3_known = some true := by kernel_rfl

theorem ft_j1 (x6 : List UInt8) (p_at : Int) (raw : List UInt8) (w : UInt8) (cut : Int) (h : x6.length < 1000000000) : ∃ y, osmosislaw3_FrameTells_J1 x6 p_at raw w cut = some y ∧ y.length = x6.length := by
  unfold osmosislaw3_FrameTells_J1 osmosislaw3_FrameTells_J0
  by_cases h0 : 0 < x6.length
  · rw [dec_t (by omega), cond_true, Option.bind_some]
    cases c : (Int.tmod p_at 3 == 0)
    · exact ⟨x6, rfl, rfl⟩
    · have h1 := Int.emod_nonneg (IntKind.i64.wrap (Int.tdiv p_at 3)) (by omega : (x6.length : Int) ≠ 0)
      have h2 := Int.emod_lt_of_pos (IntKind.i64.wrap (Int.tdiv p_at 3)) (by omega : (0 : Int) < (x6.length : Int))
      rw [cond_true, pick_plain _ _ (by omega) (by omega), Option.bind_some]
      obtain ⟨k, hk⟩ : ∃ k : Nat, IntKind.i64.wrap (Int.tdiv p_at 3) % (x6.length : Int) = k := ⟨_, (Int.toNat_of_nonneg h1).symm⟩
      rw [hk, getI_at (by omega), Option.bind_some, Option.bind_some]
      exact ⟨_, rfl, by simp⟩
  · rw [dec_f (by omega), cond_false, Option.bind_some]
    exact ⟨x6, rfl, rfl⟩

theorem ft_j2 (cut : Int) (x : List UInt8) (raw : List UInt8) (h : x.length < 1000000000) : ∃ y, osmosislaw3_FrameTells_J2 cut x raw = some y ∧ y.length ≤ x.length := by
  unfold osmosislaw3_FrameTells_J2
  cases c : (Int.tmod cut 2 == 0)
  · exact ⟨x, rfl, by omega⟩
  · rw [cond_true, wrap_id (x := (x.length : Int) + 1) (by omega) (by omega), succ_cast]
    have h1 := Int.emod_nonneg (IntKind.i64.wrap (Int.tdiv cut 2)) (by omega : ((x.length + 1 : Nat) : Int) ≠ 0)
    have h2 := Int.emod_lt_of_pos (IntKind.i64.wrap (Int.tdiv cut 2)) (by omega : (0 : Int) < ((x.length + 1 : Nat) : Int))
    rw [pick_plain _ _ (by omega) (by omega), Option.bind_some]
    obtain ⟨k, hk⟩ : ∃ k : Nat, IntKind.i64.wrap (Int.tdiv cut 2) % ((x.length + 1 : Nat) : Int) = k := ⟨_, (Int.toNat_of_nonneg h1).symm⟩
    rw [hk, slI_to x k (by omega), Option.bind_some]
    exact ⟨_, rfl, by simp; omega⟩

theorem ft_l5 (x raw : List UInt8) (h : x.length < 1000000000) (h2 : raw.length < 1000000000) : osmosislaw3_FrameTells_L5 x raw 0 = some (.inr ()) := by
  refine loop_run (fun i => (i : Int)) 2 _ (fun i hi => ?_) ?_ (by omega)
  · have hz : ∀ (z : List UInt8) (q : List (List UInt8) × Int) (s : Int), osmosislaw3_FrameTells_J3 q q z raw s = some (.inr ()) := fun z q s => by
      unfold osmosislaw3_FrameTells_J3
      rw [bne_f rfl, cond_false, bne_f rfl, cond_false]
    have hl : ∀ (z : List UInt8) (q : List (List UInt8) × Int) (s : Int), q.1.length < 1000000000 → osmosislaw3_FrameTells_L4 q q z raw s 0 = some (.inr ()) := fun z q s hq => by
      refine loop_run (fun i => (i : Int)) q.1.length _ (fun i hi => ?_) ?_ (by omega)
      · unfold osmosislaw3_FrameTells_L4_s
        rw [dec_t (by omega), cond_true, getI_at hi, Option.bind_some, Option.bind_some, wrap_id (by omega) (by omega), succ_cast]
        simp only [beq_self_eq_true, Bool.not_true, cond_false]
      · unfold osmosislaw3_FrameTells_L4_s
        rw [dec_f (by omega), cond_false]
    have go : ∀ z : List UInt8, z.length < 1000000000 → ((frame_Read z).bind fun (x29 : List (List UInt8) × Int) => (osmosisref1_Frames z).bind fun (x30 : List (List UInt8) × Int) => (osmosislaw3_FrameTells_J3 x29 x30 x raw (i : Int)).bind fun (x31 : Unit ⊕ Unit) => cond (isL x31) (some (.inr (.inl ()))) ((osmosislaw3_FrameTells_L4 x29 x30 x raw (i : Int) 0).bind fun (x38 : Unit ⊕ Unit) => cond (isL x38) (some (.inr (.inl ()))) (some (.inl (IntKind.i64.wrap ((i : Int) + 1)))))) = some ((.inl ((i + 1 : Nat) : Int)) : Int ⊕ (Unit ⊕ Unit)) := fun z hzl => by
      have hr := readR_le z
      rw [read_plain z hzl, Option.bind_some, rread_plain z hzl, Option.bind_some, hz, Option.bind_some]
      simp only [isL, cond_false]
      rw [hl _ _ _ (by simp only; omega), Option.bind_some, wrap_id (by omega) (by omega)]
      rfl
    unfold osmosislaw3_FrameTells_L5_s
    rw [dec_t (by omega), cond_true]
    have : i = 0 ∨ i = 1 := by omega
    rcases this with rfl | rfl
    · rw [getI_at (by simp), Option.bind_some]
      exact go x h
    · rw [getI_at (by simp), Option.bind_some]
      exact go raw h2
  · rfl

theorem osmosislaw3_FrameTells_true (x0 : List UInt8) (x1 : List (List UInt8)) (x2 : List UInt8) (x3 : Int) (x4 : UInt8) (x5 : Int) (o0 : (okL okT) x0) (o1 : (okL (okL okT)) x1) (o2 : (okL okT) x2) (o3 : okI x3) (o4 : okT x4) (o5 : okI x5) (hb : (bkL bk1) x0 + (bkL (bkL bk1)) x1 + (bkL bk1) x2 + bk1 x3 + bk1 x4 + bk1 x5 ≤ 1048576) : osmosislaw3_FrameTells x0 x1 x2 x3 x4 x5 = some true := by
  rw [bkL_one, bkL_one] at hb
  have hs := some8_le x1
  have he := encF_bound 200 (by omega) _ hs.2
  unfold osmosislaw3_FrameTells
  rw [some8_plain, Option.bind_some, lay_plain _ _ (by omega), Option.bind_some, Option.bind_some, rframe_plain _ _ (by omega), Option.bind_some]
  simp only [beq_self_eq_true, Bool.not_true, cond_false, Option.bind_some]
  rw [rframe2_plain _ _ (by simp; omega), Option.bind_some, List.nil_append]
  obtain ⟨y, e1, l1⟩ := ft_j1 (encF (some8 x1)) x3 x2 x4 x5 (by omega)
  rw [e1, Option.bind_some]
  obtain ⟨z, e2, l2⟩ := ft_j2 x5 y x2 (by omega)
  rw [e2, Option.bind_some, ft_l5 _ _ (by omega) (by omega), Option.bind_some]
  simp only [isL, cond_false]
  rw [known3]
  rfl

end Go.Proofs.Ytachollgbplikaa
