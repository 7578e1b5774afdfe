/- Functions as Lean functions, part 2. -/
import Derived.Test.YtachollgbplikaaXt
import Derived.Test.YtachollgbplikaaXs
import Derived.Test.YtachollgbplikaaY1
set_option linter.all false
set_option maxRecDepth 100000
namespace Go.Proofs.Ytachollgbplikaa
/- slices.Equal[[]byte,byte] -/
def st_slices_Equal_byte_byte_L0 (a0 : List UInt8) (a1 : List UInt8) (s3 : Int) : List AV × WH := ([(l_B a0), (l_B a1), (.int .i64 (a0.length : Int)), (.int .i64 s3)], [])
def fin_slices_Equal_byte_byte_L0 (a0 : List UInt8) (a1 : List UInt8) : Unit ⊕ Unit → Ex × Fast × WH := fun
  | .inl e => (.ret, [(4, (.bool false))], [])
  | .inr e => ((.exit 0), [], [])
def slices_Equal_byte_byte_L0_s (a0 : List UInt8) (a1 : List UInt8) (s3 : Int) : Option ((Int) ⊕ (Unit ⊕ Unit)) :=
  cond (decide (s3 < (a0.length : Int))) ((getI a0 s3).bind fun (x4 : UInt8) => (getI a1 s3).bind fun (x5 : UInt8) => cond ((x4.toNat : Int) != (x5.toNat : Int)) (some (.inr (.inl ()))) (some (.inl (IntKind.i64.wrap (s3 + 1))))) (some (.inr (.inr ())))
def slices_Equal_byte_byte_L0 (a0 : List UInt8) (a1 : List UInt8) (s3 : Int) : Option (Unit ⊕ Unit) := loopX (slices_Equal_byte_byte_L0_s a0 a1) KK s3
theorem b_slices_Equal_byte_byte_L0 (d : Nat) {a0 : List UInt8} {a1 : List UInt8} {s3 : Int} {r : (Int) ⊕ (Unit ⊕ Unit)} (h : slices_Equal_byte_byte_L0_s a0 a1 s3 = some r) : RunS (bexec (wcalls atab (d + 0)) KK 26 WB120_0) 0 [(0, (l_B a0)), (1, (l_B a1)), (12, (.int .i64 (a0.length : Int))), (13, (.int .i64 s3))] [] (roundX [0, 1, 12, 13] (st_slices_Equal_byte_byte_L0 a0 a1) (fin_slices_Equal_byte_byte_L0 a0 a1) r).1 (roundX [0, 1, 12, 13] (st_slices_Equal_byte_byte_L0 a0 a1) (fin_slices_Equal_byte_byte_L0 a0 a1) r).2.1 (roundX [0, 1, 12, 13] (st_slices_Equal_byte_byte_L0 a0 a1) (fin_slices_Equal_byte_byte_L0 a0 a1) r).2.2 := by
  obtain ⟨x4, hx4⟩ : ∃ x : UInt8, x = (getI a0 s3).getD default := ⟨_, rfl⟩
  obtain ⟨x5, hx5⟩ : ∃ x : UInt8, x = (getI a1 s3).getD default := ⟨_, rfl⟩
  have e : ∀ C : ACalls, wCode C (fun _ => none) KK 26 0 WB120_0 [(0, (l_B a0)), (1, (l_B a1)), (12, (.int .i64 (a0.length : Int))), (13, (.int .i64 s3))] [] (.br 14 (.v 18 (.elem ([(byteC x4)] ++ F_B (a0.drop (s3.toNat + 1)))) (.v 22 (.elem ([(byteC x5)] ++ F_B (a1.drop (s3.toNat + 1)))) (.br 24 (.en [4] [none] [] []) (.en [0, 1, 12, 13] [none, none, none, none] [] [])))) (.en [] [] [] [])) (roundX [0, 1, 12, 13] (st_slices_Equal_byte_byte_L0 a0 a1) (fin_slices_Equal_byte_byte_L0 a0 a1) r) = (((decide (s3 < (a0.length : Int))) = true → (wP (.idxSlice 1 (.c (l_B a0)) (.c (.int .i64 s3))) = some (.elem ([(byteC x4)] ++ F_B (a0.drop (s3.toNat + 1)))) ∧ (wP (.idxSlice 1 (.c (l_B a1)) (.c (.int .i64 s3))) = some (.elem ([(byteC x5)] ++ F_B (a1.drop (s3.toNat + 1)))) ∧ ((((x4.toNat : Int) != (x5.toNat : Int)) = true → (.ret = (roundX [0, 1, 12, 13] (st_slices_Equal_byte_byte_L0 a0 a1) (fin_slices_Equal_byte_byte_L0 a0 a1) r).1 ∧ [(4, (.bool false))] = (roundX [0, 1, 12, 13] (st_slices_Equal_byte_byte_L0 a0 a1) (fin_slices_Equal_byte_byte_L0 a0 a1) r).2.1 ∧ [] = (roundX [0, 1, 12, 13] (st_slices_Equal_byte_byte_L0 a0 a1) (fin_slices_Equal_byte_byte_L0 a0 a1) r).2.2)) ∧ (((x4.toNat : Int) != (x5.toNat : Int)) = false → (.normal = (roundX [0, 1, 12, 13] (st_slices_Equal_byte_byte_L0 a0 a1) (fin_slices_Equal_byte_byte_L0 a0 a1) r).1 ∧ [(0, (l_B a0)), (1, (l_B a1)), (12, (.int .i64 (a0.length : Int))), (13, (.int .i64 (IntKind.i64.wrap (s3 + 1))))] = (roundX [0, 1, 12, 13] (st_slices_Equal_byte_byte_L0 a0 a1) (fin_slices_Equal_byte_byte_L0 a0 a1) r).2.1 ∧ [] = (roundX [0, 1, 12, 13] (st_slices_Equal_byte_byte_L0 a0 a1) (fin_slices_Equal_byte_byte_L0 a0 a1) r).2.2)))))) ∧ ((decide (s3 < (a0.length : Int))) = false → ((.exit 0) = (roundX [0, 1, 12, 13] (st_slices_Equal_byte_byte_L0 a0 a1) (fin_slices_Equal_byte_byte_L0 a0 a1) r).1 ∧ [] = (roundX [0, 1, 12, 13] (st_slices_Equal_byte_byte_L0 a0 a1) (fin_slices_Equal_byte_byte_L0 a0 a1) r).2.1 ∧ [] = (roundX [0, 1, 12, 13] (st_slices_Equal_byte_byte_L0 a0 a1) (fin_slices_Equal_byte_byte_L0 a0 a1) r).2.2))) := fun C => by kernel_rfl
  refine runS_of (fun _ _ h => by cases h) WB120_0_ok (Nat.le_of_ble_eq_true rfl) ((e _).mpr ?_)
  unfold slices_Equal_byte_byte_L0_s at h
  refine ⟨fun hb => ?_, fun hb => ?_⟩
  · have h := cond_t hb h
    obtain ⟨q4, h⟩ := bget hx4 h
    refine ⟨wP_idx R_B q4, ?_⟩
    obtain ⟨q5, h⟩ := bget hx5 h
    refine ⟨wP_idx R_B q5, ?_⟩
    refine ⟨fun hb => ?_, fun hb => ?_⟩
    · have h := cond_t hb h
      obtain rfl := Option.some.inj h
      exact ⟨rfl, by first | rfl | (simp only [roundX, zipKeep, fin_slices_Equal_byte_byte_L0, st_slices_Equal_byte_byte_L0, List.length_set, List.length_append, List.length_replicate, List.length_cons, List.length_nil, Nat.add_zero, Nat.zero_add]; done) | simp [roundX, zipKeep, fin_slices_Equal_byte_byte_L0, st_slices_Equal_byte_byte_L0], by first | rfl | (simp only [roundX, zipKeep, fin_slices_Equal_byte_byte_L0, st_slices_Equal_byte_byte_L0, List.length_set, List.length_append, List.length_replicate, List.length_cons, List.length_nil, Nat.add_zero, Nat.zero_add]; done) | simp [roundX, zipKeep, fin_slices_Equal_byte_byte_L0, st_slices_Equal_byte_byte_L0]⟩
    · have h := cond_f hb h
      obtain rfl := Option.some.inj h
      exact ⟨rfl, by first | rfl | (simp only [roundX, zipKeep, fin_slices_Equal_byte_byte_L0, st_slices_Equal_byte_byte_L0, List.length_set, List.length_append, List.length_replicate, List.length_cons, List.length_nil, Nat.add_zero, Nat.zero_add]; done) | simp [roundX, zipKeep, fin_slices_Equal_byte_byte_L0, st_slices_Equal_byte_byte_L0], by first | rfl | (simp only [roundX, zipKeep, fin_slices_Equal_byte_byte_L0, st_slices_Equal_byte_byte_L0, List.length_set, List.length_append, List.length_replicate, List.length_cons, List.length_nil, Nat.add_zero, Nat.zero_add]; done) | simp [roundX, zipKeep, fin_slices_Equal_byte_byte_L0, st_slices_Equal_byte_byte_L0]⟩
  · have h := cond_f hb h
    obtain rfl := Option.some.inj h
    exact ⟨rfl, by first | rfl | (simp only [roundX, zipKeep, fin_slices_Equal_byte_byte_L0, st_slices_Equal_byte_byte_L0, List.length_set, List.length_append, List.length_replicate, List.length_cons, List.length_nil, Nat.add_zero, Nat.zero_add]; done) | simp [roundX, zipKeep, fin_slices_Equal_byte_byte_L0, st_slices_Equal_byte_byte_L0], by first | rfl | (simp only [roundX, zipKeep, fin_slices_Equal_byte_byte_L0, st_slices_Equal_byte_byte_L0, List.length_set, List.length_append, List.length_replicate, List.length_cons, List.length_nil, Nat.add_zero, Nat.zero_add]; done) | simp [roundX, zipKeep, fin_slices_Equal_byte_byte_L0, st_slices_Equal_byte_byte_L0]⟩
theorem s_slices_Equal_byte_byte_L0 (d : Nat) {a0 : List UInt8} {a1 : List UInt8} {s3 : Int} {r : Unit ⊕ Unit} (h : slices_Equal_byte_byte_L0 a0 a1 s3 = some r) : RunS (bloop (bexec (wcalls atab (d + 0)) KK 26 WB120_0) [0, 1, 12, 13] KK) 0 [(0, (l_B a0)), (1, (l_B a1)), (12, (.int .i64 (a0.length : Int))), (13, (.int .i64 s3))] [] (fin_slices_Equal_byte_byte_L0 a0 a1 r).1 (fin_slices_Equal_byte_byte_L0 a0 a1 r).2.1 (fin_slices_Equal_byte_byte_L0 a0 a1 r).2.2 :=
  loop_of (st := st_slices_Equal_byte_byte_L0 a0 a1) (fin := fin_slices_Equal_byte_byte_L0 a0 a1) (step := slices_Equal_byte_byte_L0_s a0 a1) (fun e => by rcases e with e | e <;> (intro h; cases h)) (fun s x h => b_slices_Equal_byte_byte_L0 d h) KK s3 r h

def slices_Equal_byte_byte (a0 : List UInt8) (a1 : List UInt8) : Option (Bool) :=
  cond ((a0.length : Int) != (a1.length : Int)) (some false) ((slices_Equal_byte_byte_L0 a0 a1 0).bind fun (x6 : Unit ⊕ Unit) => cond (isL x6) (some false) (some true))

theorem s_slices_Equal_byte_byte (d : Nat) {a0 : List UInt8} {a1 : List UInt8} {r : Bool} (h : slices_Equal_byte_byte a0 a1 = some r) : Spec (wcalls atab (d + 1)) 120 [(l_B a0), (l_B a1)] [] (.bool r) [] := by
  obtain ⟨x6, hx6⟩ : ∃ x : Unit ⊕ Unit, x = (slices_Equal_byte_byte_L0 a0 a1 0).getD default := ⟨_, rfl⟩
  have e : ∀ C : ACalls, wBody C (fun _ => none) KK WF120 [(l_B a0), (l_B a1)] [] (.br 10 (.fin (some false) [] none) (.ite (isL x6) (.lp [none, none, none, none] [] [] .ret [(4, (.bool false))] [] (.fin (some false) [] none)) (.lp [none, none, none, none] [] [] (.exit 0) [] [] (.fin (some false) [] none)))) (.bool r) [] = (2 = 2 ∧ 2 ≤ 26 ∧ ((((a0.length : Int) != (a1.length : Int)) = true → (@Eq AV (.bool false) (.bool r) ∧ @Eq WH [] [])) ∧ (((a0.length : Int) != (a1.length : Int)) = false → (((isL x6) = true → (RunS (bloop (bexec C KK 26 WB120_0) [0, 1, 12, 13] KK) 0 [(0, (l_B a0)), (1, (l_B a1)), (12, (.int .i64 (a0.length : Int))), (13, (.int .i64 0))] [] .ret [(4, (.bool false))] [] ∧ (@Eq AV (.bool false) (.bool r) ∧ @Eq WH [] []))) ∧ ((isL x6) = false → (RunS (bloop (bexec C KK 26 WB120_0) [0, 1, 12, 13] KK) 0 [(0, (l_B a0)), (1, (l_B a1)), (12, (.int .i64 (a0.length : Int))), (13, (.int .i64 0))] [] (.exit 0) [] [] ∧ (@Eq AV (.bool true) (.bool r) ∧ @Eq WH [] []))))))) := fun C => by kernel_rfl
  refine spec_of (fun _ _ h => by cases h) rfl atab_120 WF120_ok ((e _).mpr ⟨rfl, by decide, ?_⟩)
  unfold slices_Equal_byte_byte at h
  refine ⟨fun hb => ?_, fun hb => ?_⟩
  · have h := cond_t hb h
    obtain rfl := Option.some.inj h
    exact ⟨by wleaf, by wleaf⟩
  · have h := cond_f hb h
    obtain ⟨q6, h⟩ := bget hx6 h
    refine ⟨fun hb7 => ?_, fun hb7 => ?_⟩
    · have h := cond_t hb7 h
      refine ⟨by have h := s_slices_Equal_byte_byte_L0 (d + 0) q6; rw [isL_t hb7] at h; exact h, ?_⟩
      obtain rfl := Option.some.inj h
      exact ⟨by wleaf, by wleaf⟩
    · have h := cond_f hb7 h
      refine ⟨by have h := s_slices_Equal_byte_byte_L0 (d + 0) q6; rw [isL_f hb7] at h; exact h, ?_⟩
      obtain rfl := Option.some.inj h
      exact ⟨by wleaf, by wleaf⟩

/- osmosis/frame.one -/
def fin_frame_one_J0 (x2 : Int × List UInt8 × Int) (p_b : List UInt8) (x3 : List UInt8) : Unit ⊕ Unit → Ex × Fast × WH := fun
  | .inl e => (.ret, [(2, (.slice none 1 0 0 true)), (3, (.int .i64 0)), (4, (.bool false))], [])
  | .inr e => (.normal, [(0, (l_B p_b)), (5, (.int .i64 x2.1)), (8, (.int .i64 (IntKind.i64.wrap ((IntKind.i64.wrap ((x3.length : Int) - (x2.2.1.length : Int))) + 8))))], [])
def frame_one_J0 (x2 : Int × List UInt8 × Int) (p_b : List UInt8) (x3 : List UInt8) : Option (Unit ⊕ Unit) :=
  cond (x2.2.2 != 0) (some (.inl ())) (cond (decide (x2.1 > 4000)) (some (.inl ())) (cond (decide ((p_b.length : Int) < (IntKind.i64.wrap ((IntKind.i64.wrap ((IntKind.i64.wrap ((x3.length : Int) - (x2.2.1.length : Int))) + 8)) + x2.1)))) (some (.inl ())) (some (.inr ()))))
theorem s_frame_one_J0 (d : Nat) {x2 : Int × List UInt8 × Int} {p_b : List UInt8} {x3 : List UInt8} {r : Unit ⊕ Unit} (h : frame_one_J0 x2 p_b x3 = some r) : RunS (bexec (wcalls atab (d + 0)) KK 64 WJ85_bbba) 0 [(0, (l_B p_b)), (5, (.int .i64 x2.1)), (7, (.int .i64 x2.2.2)), (8, (.int .i64 (IntKind.i64.wrap ((IntKind.i64.wrap ((x3.length : Int) - (x2.2.1.length : Int))) + 8))))] [] (fin_frame_one_J0 x2 p_b x3 r).1 (fin_frame_one_J0 x2 p_b x3 r).2.1 (fin_frame_one_J0 x2 p_b x3 r).2.2 := by
  have e : ∀ C : ACalls, wCode C (fun _ => none) KK 64 0 WJ85_bbba [(0, (l_B p_b)), (5, (.int .i64 x2.1)), (7, (.int .i64 x2.2.2)), (8, (.int .i64 (IntKind.i64.wrap ((IntKind.i64.wrap ((x3.length : Int) - (x2.2.1.length : Int))) + 8))))] [] (.br 31 (.en [2, 3, 4] [none, none, none] [] []) (.br 35 (.en [2, 3, 4] [none, none, none] [] []) (.br 42 (.en [2, 3, 4] [none, none, none] [] []) (.en [0, 5, 8] [none, none, none] [] [])))) (fin_frame_one_J0 x2 p_b x3 r) = (((x2.2.2 != 0) = true → (.ret = (fin_frame_one_J0 x2 p_b x3 r).1 ∧ [(2, (.slice none 1 0 0 true)), (3, (.int .i64 0)), (4, (.bool false))] = (fin_frame_one_J0 x2 p_b x3 r).2.1 ∧ [] = (fin_frame_one_J0 x2 p_b x3 r).2.2)) ∧ ((x2.2.2 != 0) = false → (((decide (x2.1 > 4000)) = true → (.ret = (fin_frame_one_J0 x2 p_b x3 r).1 ∧ [(2, (.slice none 1 0 0 true)), (3, (.int .i64 0)), (4, (.bool false))] = (fin_frame_one_J0 x2 p_b x3 r).2.1 ∧ [] = (fin_frame_one_J0 x2 p_b x3 r).2.2)) ∧ ((decide (x2.1 > 4000)) = false → (((decide ((p_b.length : Int) < (IntKind.i64.wrap ((IntKind.i64.wrap ((IntKind.i64.wrap ((x3.length : Int) - (x2.2.1.length : Int))) + 8)) + x2.1)))) = true → (.ret = (fin_frame_one_J0 x2 p_b x3 r).1 ∧ [(2, (.slice none 1 0 0 true)), (3, (.int .i64 0)), (4, (.bool false))] = (fin_frame_one_J0 x2 p_b x3 r).2.1 ∧ [] = (fin_frame_one_J0 x2 p_b x3 r).2.2)) ∧ ((decide ((p_b.length : Int) < (IntKind.i64.wrap ((IntKind.i64.wrap ((IntKind.i64.wrap ((x3.length : Int) - (x2.2.1.length : Int))) + 8)) + x2.1)))) = false → (.normal = (fin_frame_one_J0 x2 p_b x3 r).1 ∧ [(0, (l_B p_b)), (5, (.int .i64 x2.1)), (8, (.int .i64 (IntKind.i64.wrap ((IntKind.i64.wrap ((x3.length : Int) - (x2.2.1.length : Int))) + 8))))] = (fin_frame_one_J0 x2 p_b x3 r).2.1 ∧ [] = (fin_frame_one_J0 x2 p_b x3 r).2.2))))))) := fun C => by kernel_rfl
  refine runS_of (fun _ _ h => by cases h) WJ85_bbba_ok (Nat.le_of_ble_eq_true rfl) ((e _).mpr ?_)
  unfold frame_one_J0 at h
  refine ⟨fun hb => ?_, fun hb => ?_⟩
  · have h := cond_t hb h
    obtain rfl := Option.some.inj h
    exact ⟨rfl, by first | rfl | (simp only [roundX, zipKeep, fin_frame_one_J0, List.length_set, List.length_append, List.length_replicate, List.length_cons, List.length_nil, Nat.add_zero, Nat.zero_add]; done) | simp [roundX, zipKeep, fin_frame_one_J0], by first | rfl | (simp only [roundX, zipKeep, fin_frame_one_J0, List.length_set, List.length_append, List.length_replicate, List.length_cons, List.length_nil, Nat.add_zero, Nat.zero_add]; done) | simp [roundX, zipKeep, fin_frame_one_J0]⟩
  · have h := cond_f hb h
    refine ⟨fun hb => ?_, fun hb => ?_⟩
    · have h := cond_t hb h
      obtain rfl := Option.some.inj h
      exact ⟨rfl, by first | rfl | (simp only [roundX, zipKeep, fin_frame_one_J0, List.length_set, List.length_append, List.length_replicate, List.length_cons, List.length_nil, Nat.add_zero, Nat.zero_add]; done) | simp [roundX, zipKeep, fin_frame_one_J0], by first | rfl | (simp only [roundX, zipKeep, fin_frame_one_J0, List.length_set, List.length_append, List.length_replicate, List.length_cons, List.length_nil, Nat.add_zero, Nat.zero_add]; done) | simp [roundX, zipKeep, fin_frame_one_J0]⟩
    · have h := cond_f hb h
      refine ⟨fun hb => ?_, fun hb => ?_⟩
      · have h := cond_t hb h
        obtain rfl := Option.some.inj h
        exact ⟨rfl, by first | rfl | (simp only [roundX, zipKeep, fin_frame_one_J0, List.length_set, List.length_append, List.length_replicate, List.length_cons, List.length_nil, Nat.add_zero, Nat.zero_add]; done) | simp [roundX, zipKeep, fin_frame_one_J0], by first | rfl | (simp only [roundX, zipKeep, fin_frame_one_J0, List.length_set, List.length_append, List.length_replicate, List.length_cons, List.length_nil, Nat.add_zero, Nat.zero_add]; done) | simp [roundX, zipKeep, fin_frame_one_J0]⟩
      · have h := cond_f hb h
        obtain rfl := Option.some.inj h
        exact ⟨rfl, by first | rfl | (simp only [roundX, zipKeep, fin_frame_one_J0, List.length_set, List.length_append, List.length_replicate, List.length_cons, List.length_nil, Nat.add_zero, Nat.zero_add]; done) | simp [roundX, zipKeep, fin_frame_one_J0], by first | rfl | (simp only [roundX, zipKeep, fin_frame_one_J0, List.length_set, List.length_append, List.length_replicate, List.length_cons, List.length_nil, Nat.add_zero, Nat.zero_add]; done) | simp [roundX, zipKeep, fin_frame_one_J0]⟩

def frame_one (p_b : List UInt8) : Option (List UInt8 × Int × Bool) :=
  (slI p_b 0 (if (9 : Int) < (p_b.length : Int) then 9 else (p_b.length : Int))).bind fun (x1 : List UInt8) => (nums_Take x1).bind fun (x2 : Int × List UInt8 × Int) => (slI p_b 0 (if (9 : Int) < (p_b.length : Int) then 9 else (p_b.length : Int))).bind fun (x3 : List UInt8) => (frame_one_J0 x2 p_b x3).bind fun (x4 : Unit ⊕ Unit) => cond (isL x4) (some ([], 0, false)) ((slI p_b (IntKind.i64.wrap ((IntKind.i64.wrap ((x3.length : Int) - (x2.2.1.length : Int))) + 8)) (IntKind.i64.wrap ((IntKind.i64.wrap ((IntKind.i64.wrap ((x3.length : Int) - (x2.2.1.length : Int))) + 8)) + x2.1))).bind fun (x6 : List UInt8) => (frame_sum x6).bind fun (x7 : List UInt8) => (slI p_b (IntKind.i64.wrap ((IntKind.i64.wrap ((IntKind.i64.wrap ((x3.length : Int) - (x2.2.1.length : Int))) + 8)) - 8)) (IntKind.i64.wrap ((IntKind.i64.wrap ((x3.length : Int) - (x2.2.1.length : Int))) + 8))).bind fun (x8 : List UInt8) => (slices_Equal_byte_byte x7 x8).bind fun (x9 : Bool) => cond (!x9) (some ([], 0, false)) (gd (fitsB 1 x6.length) (some (x6, (IntKind.i64.wrap ((IntKind.i64.wrap ((IntKind.i64.wrap ((x3.length : Int) - (x2.2.1.length : Int))) + 8)) + x2.1)), true))))

theorem s_frame_one (d : Nat) {p_b : List UInt8} {r : List UInt8 × Int × Bool} (h : frame_one p_b = some r) : Spec (wcalls atab (d + 5)) 85 [(l_B p_b)] [] (.tuple [(l_B r.1), (.int .i64 r.2.1), (.bool r.2.2)]) [] := by
  obtain ⟨x1, hx1⟩ : ∃ x : List UInt8, x = (slI p_b 0 (if (9 : Int) < (p_b.length : Int) then 9 else (p_b.length : Int))).getD default := ⟨_, rfl⟩
  obtain ⟨x2, hx2⟩ : ∃ x : Int × List UInt8 × Int, x = (nums_Take x1).getD default := ⟨_, rfl⟩
  obtain ⟨x3, hx3⟩ : ∃ x : List UInt8, x = (slI p_b 0 (if (9 : Int) < (p_b.length : Int) then 9 else (p_b.length : Int))).getD default := ⟨_, rfl⟩
  obtain ⟨x4, hx4⟩ : ∃ x : Unit ⊕ Unit, x = (frame_one_J0 x2 p_b x3).getD default := ⟨_, rfl⟩
  obtain ⟨x6, hx6⟩ : ∃ x : List UInt8, x = (slI p_b (IntKind.i64.wrap ((IntKind.i64.wrap ((x3.length : Int) - (x2.2.1.length : Int))) + 8)) (IntKind.i64.wrap ((IntKind.i64.wrap ((IntKind.i64.wrap ((x3.length : Int) - (x2.2.1.length : Int))) + 8)) + x2.1))).getD default := ⟨_, rfl⟩
  obtain ⟨x7, hx7⟩ : ∃ x : List UInt8, x = (frame_sum x6).getD default := ⟨_, rfl⟩
  obtain ⟨x8, hx8⟩ : ∃ x : List UInt8, x = (slI p_b (IntKind.i64.wrap ((IntKind.i64.wrap ((IntKind.i64.wrap ((x3.length : Int) - (x2.2.1.length : Int))) + 8)) - 8)) (IntKind.i64.wrap ((IntKind.i64.wrap ((x3.length : Int) - (x2.2.1.length : Int))) + 8))).getD default := ⟨_, rfl⟩
  obtain ⟨x9, hx9⟩ : ∃ x : Bool, x = (slices_Equal_byte_byte x7 x8).getD default := ⟨_, rfl⟩
  have e : ∀ C : ACalls, wBody C wB KK WF85 [(l_B p_b)] [] (.v 14 (l_B x1) (.call [] (some false) [] (.tuple [(.int .i64 x2.1), (l_B x2.2.1), (.int .i64 x2.2.2)]) [] (.v 23 (l_B x3) (.ite (isL x4) (.jn [0, 5, 7, 8] [none, none, none, none] [] [] .ret [(2, (.slice none 1 0 0 true)), (3, (.int .i64 0)), (4, (.bool false))] [] (.fin (some false) [] none)) (.jn [0, 5, 7, 8] [none, none, none, none] [] [] .normal [(0, (l_B p_b)), (5, (.int .i64 x2.1)), (8, (.int .i64 (IntKind.i64.wrap ((IntKind.i64.wrap ((x3.length : Int) - (x2.2.1.length : Int))) + 8))))] [] (.v 48 (l_B x6) (.call [] (some false) [] (l_B x7) [] (.v 55 (l_B x8) (.cb [] [] (.bool x9) (.br 57 (.fin (some false) [] none) (.fin (some false) [] none))))))))))) (.tuple [(l_B r.1), (.int .i64 r.2.1), (.bool r.2.2)]) [] = (1 = 1 ∧ 1 ≤ 64 ∧ (wP (.slice 1 (.c (l_B p_b)) none (some (.c (.int .i64 (if (9 : Int) < (p_b.length : Int) then 9 else (p_b.length : Int))))) none) = some (l_B x1) ∧ (Spec C 119 [(l_B x1)] [] (.tuple [(.int .i64 x2.1), (l_B x2.2.1), (.int .i64 x2.2.2)]) [] ∧ (0 ≤ 0 ∧ (wP (.slice 1 (.c (l_B p_b)) none (some (.c (.int .i64 (if (9 : Int) < (p_b.length : Int) then 9 else (p_b.length : Int))))) none) = some (l_B x3) ∧ (((isL x4) = true → (RunS (bexec C KK 64 WJ85_bbba) 0 [(0, (l_B p_b)), (5, (.int .i64 x2.1)), (7, (.int .i64 x2.2.2)), (8, (.int .i64 (IntKind.i64.wrap ((IntKind.i64.wrap ((x3.length : Int) - (x2.2.1.length : Int))) + 8))))] [] .ret [(2, (.slice none 1 0 0 true)), (3, (.int .i64 0)), (4, (.bool false))] [] ∧ (@Eq AV (.tuple [(l_B []), (.int .i64 0), (.bool false)]) (.tuple [(l_B r.1), (.int .i64 r.2.1), (.bool r.2.2)]) ∧ @Eq WH [] []))) ∧ ((isL x4) = false → (RunS (bexec C KK 64 WJ85_bbba) 0 [(0, (l_B p_b)), (5, (.int .i64 x2.1)), (7, (.int .i64 x2.2.2)), (8, (.int .i64 (IntKind.i64.wrap ((IntKind.i64.wrap ((x3.length : Int) - (x2.2.1.length : Int))) + 8))))] [] .normal [(0, (l_B p_b)), (5, (.int .i64 x2.1)), (8, (.int .i64 (IntKind.i64.wrap ((IntKind.i64.wrap ((x3.length : Int) - (x2.2.1.length : Int))) + 8))))] [] ∧ (wP (.slice 1 (.c (l_B p_b)) (some (.c (.int .i64 (IntKind.i64.wrap ((IntKind.i64.wrap ((x3.length : Int) - (x2.2.1.length : Int))) + 8))))) (some (.c (.int .i64 (IntKind.i64.wrap ((IntKind.i64.wrap ((IntKind.i64.wrap ((x3.length : Int) - (x2.2.1.length : Int))) + 8)) + x2.1))))) none) = some (l_B x6) ∧ (Spec C 83 [(l_B x6)] [] (l_B x7) [] ∧ (0 ≤ 0 ∧ (wP (.slice 1 (.c (l_B p_b)) (some (.c (.int .i64 (IntKind.i64.wrap ((IntKind.i64.wrap ((IntKind.i64.wrap ((x3.length : Int) - (x2.2.1.length : Int))) + 8)) - 8))))) (some (.c (.int .i64 (IntKind.i64.wrap ((IntKind.i64.wrap ((x3.length : Int) - (x2.2.1.length : Int))) + 8))))) none) = some (l_B x8) ∧ (Spec C 120 [(l_B x7), (l_B x8)] [] (.bool x9) [] ∧ (((!x9) = true → (@Eq AV (.tuple [(l_B []), (.int .i64 0), (.bool false)]) (.tuple [(l_B r.1), (.int .i64 r.2.1), (.bool r.2.2)]) ∧ @Eq WH [] [])) ∧ ((!x9) = false → (fitsB 1 x6.length = true ∧ (@Eq AV (.tuple [(l_B x6), (.int .i64 (IntKind.i64.wrap ((IntKind.i64.wrap ((IntKind.i64.wrap ((x3.length : Int) - (x2.2.1.length : Int))) + 8)) + x2.1))), (.bool true)]) (.tuple [(l_B r.1), (.int .i64 r.2.1), (.bool r.2.2)]) ∧ @Eq WH [] []))))))))))))))))) := fun C => by kernel_rfl
  refine spec_of (wB_ok _) rfl atab_85 WF85_ok ((e _).mpr ⟨rfl, by decide, ?_⟩)
  unfold frame_one at h
  obtain ⟨q1, h⟩ := bget hx1 h
  refine ⟨wP_sl_h R_B q1, ?_⟩
  obtain ⟨q2, h⟩ := bget hx2 h
  refine ⟨s_nums_Take (d + 0) q2, ?_⟩
  refine ⟨by decide, ?_⟩
  obtain ⟨q3, h⟩ := bget hx3 h
  refine ⟨wP_sl_h R_B q3, ?_⟩
  obtain ⟨q4, h⟩ := bget hx4 h
  refine ⟨fun hb5 => ?_, fun hb5 => ?_⟩
  · have h := cond_t hb5 h
    refine ⟨by have h := s_frame_one_J0 (d + 4) q4; rw [isL_t hb5] at h; exact h, ?_⟩
    obtain rfl := Option.some.inj h
    exact ⟨by wleaf, by wleaf⟩
  · have h := cond_f hb5 h
    refine ⟨by have h := s_frame_one_J0 (d + 4) q4; rw [isL_f hb5] at h; exact h, ?_⟩
    obtain ⟨q6, h⟩ := bget hx6 h
    refine ⟨wP_sl_lh R_B q6, ?_⟩
    obtain ⟨q7, h⟩ := bget hx7 h
    refine ⟨s_frame_sum (d + 2) q7, ?_⟩
    refine ⟨by decide, ?_⟩
    obtain ⟨q8, h⟩ := bget hx8 h
    refine ⟨wP_sl_lh R_B q8, ?_⟩
    obtain ⟨q9, h⟩ := bget hx9 h
    refine ⟨s_slices_Equal_byte_byte (d + 3) q9, ?_⟩
    refine ⟨fun hb => ?_, fun hb => ?_⟩
    · have h := cond_t hb h
      obtain rfl := Option.some.inj h
      exact ⟨by wleaf, by wleaf⟩
    · have h := cond_f hb h
      obtain ⟨q10, h⟩ := gd_some h
      refine ⟨q10, ?_⟩
      obtain rfl := Option.some.inj h
      exact ⟨by wleaf, by wleaf⟩

/- osmosis/frame.Read -/
def st_frame_Read_L0 (p_b : List UInt8) (s7 : Int × List (List UInt8)) : List AV × WH := ([(l_B p_b), (.acc 0 0 1 s7.2.length true), (.int .i64 s7.1)], [(some (.cells (F_LB s7.2) false true))])
def fin_frame_Read_L0 (p_b : List UInt8) : (Int × List (List UInt8)) → Ex × Fast × WH := fun e => (.ret, [(2, (.acc 0 0 1 e.2.length true)), (3, (.int .i64 e.1))], [(some (.cells (F_LB e.2) false true))])
def frame_Read_L0_s (p_b : List UInt8) (s7 : Int × List (List UInt8)) : Option ((Int × List (List UInt8)) ⊕ ((Int × List (List UInt8)))) :=
  (slI p_b s7.1 p_b.length).bind fun (x8 : List UInt8) => (frame_one x8).bind fun (x9 : List UInt8 × Int × Bool) => cond (!x9.2.2) (some (.inr (s7.1, s7.2))) (gd (fitsB 24 (s7.2 ++ [x9.1]).length) (some (.inl ((IntKind.i64.wrap (s7.1 + x9.2.1)), (s7.2 ++ [x9.1])))))
def frame_Read_L0 (p_b : List UInt8) (s7 : Int × List (List UInt8)) : Option ((Int × List (List UInt8))) := loopX (frame_Read_L0_s p_b) KK s7
theorem b_frame_Read_L0 (d : Nat) {p_b : List UInt8} {s7 : Int × List (List UInt8)} {r : (Int × List (List UInt8)) ⊕ ((Int × List (List UInt8)))} (h : frame_Read_L0_s p_b s7 = some r) : RunS (bexec (wcalls atab (d + 5)) KK 27 WB24_0) 0 [(0, (l_B p_b)), (2, (.acc 0 0 1 s7.2.length true)), (3, (.int .i64 s7.1))] [(some (.cells (F_LB s7.2) false true))] (roundX [0, 2, 3] (st_frame_Read_L0 p_b) (fin_frame_Read_L0 p_b) r).1 (roundX [0, 2, 3] (st_frame_Read_L0 p_b) (fin_frame_Read_L0 p_b) r).2.1 (roundX [0, 2, 3] (st_frame_Read_L0 p_b) (fin_frame_Read_L0 p_b) r).2.2 := by
  obtain ⟨x8, hx8⟩ : ∃ x : List UInt8, x = (slI p_b s7.1 p_b.length).getD default := ⟨_, rfl⟩
  obtain ⟨x9, hx9⟩ : ∃ x : List UInt8 × Int × Bool, x = (frame_one x8).getD default := ⟨_, rfl⟩
  have e : ∀ C : ACalls, wCode C wB KK 27 0 WB24_0 [(0, (l_B p_b)), (2, (.acc 0 0 1 s7.2.length true)), (3, (.int .i64 s7.1))] [(some (.cells (F_LB s7.2) false true))] (.v 10 (l_B x8) (.call [] (some false) [] (.tuple [(l_B x9.1), (.int .i64 x9.2.1), (.bool x9.2.2)]) [] (.br 16 (.en [2, 3] [none, none] [] []) (.ap 23 (s7.2 ++ [x9.1]).length (F_LB (s7.2 ++ [x9.1])) (.en [0, 2, 3] [none, none, none] [] []))))) (roundX [0, 2, 3] (st_frame_Read_L0 p_b) (fin_frame_Read_L0 p_b) r) = (wP (.slice 1 (.c (l_B p_b)) (some (.c (.int .i64 s7.1))) none none) = some (l_B x8) ∧ (Spec C 85 [(l_B x8)] [] (.tuple [(l_B x9.1), (.int .i64 x9.2.1), (.bool x9.2.2)]) [] ∧ (0 ≤ 0 ∧ (((!x9.2.2) = true → (.ret = (roundX [0, 2, 3] (st_frame_Read_L0 p_b) (fin_frame_Read_L0 p_b) r).1 ∧ [(2, (.acc 0 0 1 s7.2.length true)), (3, (.int .i64 s7.1))] = (roundX [0, 2, 3] (st_frame_Read_L0 p_b) (fin_frame_Read_L0 p_b) r).2.1 ∧ [(some (.cells (F_LB s7.2) false true))] = (roundX [0, 2, 3] (st_frame_Read_L0 p_b) (fin_frame_Read_L0 p_b) r).2.2)) ∧ ((!x9.2.2) = false → (s7.2.length + 1 = (s7.2 ++ [x9.1]).length ∧ (F_LB s7.2 ++ F_LB [x9.1] = F_LB (s7.2 ++ [x9.1]) ∧ (fitsB 24 (s7.2 ++ [x9.1]).length = true ∧ (.normal = (roundX [0, 2, 3] (st_frame_Read_L0 p_b) (fin_frame_Read_L0 p_b) r).1 ∧ [(0, (l_B p_b)), (2, (.acc 0 0 1 ((s7.2 ++ [x9.1]).length) true)), (3, (.int .i64 (IntKind.i64.wrap (s7.1 + x9.2.1))))] = (roundX [0, 2, 3] (st_frame_Read_L0 p_b) (fin_frame_Read_L0 p_b) r).2.1 ∧ [(some (.cells (F_LB (s7.2 ++ [x9.1])) false true))] = (roundX [0, 2, 3] (st_frame_Read_L0 p_b) (fin_frame_Read_L0 p_b) r).2.2))))))))) := fun C => by kernel_rfl
  refine runS_of (wB_ok _) WB24_0_ok (Nat.le_of_ble_eq_true rfl) ((e _).mpr ?_)
  unfold frame_Read_L0_s at h
  obtain ⟨q8, h⟩ := bget hx8 h
  refine ⟨wP_sl_l R_B q8, ?_⟩
  obtain ⟨q9, h⟩ := bget hx9 h
  refine ⟨s_frame_one (d + 0) q9, ?_⟩
  refine ⟨by decide, ?_⟩
  refine ⟨fun hb => ?_, fun hb => ?_⟩
  · have h := cond_t hb h
    obtain rfl := Option.some.inj h
    exact ⟨rfl, by first | rfl | (simp only [roundX, zipKeep, fin_frame_Read_L0, st_frame_Read_L0, List.length_set, List.length_append, List.length_replicate, List.length_cons, List.length_nil, Nat.add_zero, Nat.zero_add]; done) | simp [roundX, zipKeep, fin_frame_Read_L0, st_frame_Read_L0], by first | rfl | (simp only [roundX, zipKeep, fin_frame_Read_L0, st_frame_Read_L0, List.length_set, List.length_append, List.length_replicate, List.length_cons, List.length_nil, Nat.add_zero, Nat.zero_add]; done) | simp [roundX, zipKeep, fin_frame_Read_L0, st_frame_Read_L0]⟩
  · have h := cond_f hb h
    obtain ⟨q10, h⟩ := gd_some h
    refine ⟨by simp, ?_⟩
    refine ⟨(Row.app R_LB _ _).symm, ?_⟩
    refine ⟨q10, ?_⟩
    obtain rfl := Option.some.inj h
    exact ⟨rfl, by first | rfl | (simp only [roundX, zipKeep, fin_frame_Read_L0, st_frame_Read_L0, List.length_set, List.length_append, List.length_replicate, List.length_cons, List.length_nil, Nat.add_zero, Nat.zero_add]; done) | simp [roundX, zipKeep, fin_frame_Read_L0, st_frame_Read_L0], by first | rfl | (simp only [roundX, zipKeep, fin_frame_Read_L0, st_frame_Read_L0, List.length_set, List.length_append, List.length_replicate, List.length_cons, List.length_nil, Nat.add_zero, Nat.zero_add]; done) | simp [roundX, zipKeep, fin_frame_Read_L0, st_frame_Read_L0]⟩
theorem s_frame_Read_L0 (d : Nat) {p_b : List UInt8} {s7 : Int × List (List UInt8)} {r : (Int × List (List UInt8))} (h : frame_Read_L0 p_b s7 = some r) : RunS (bloop (bexec (wcalls atab (d + 5)) KK 27 WB24_0) [0, 2, 3] KK) 0 [(0, (l_B p_b)), (2, (.acc 0 0 1 s7.2.length true)), (3, (.int .i64 s7.1))] [(some (.cells (F_LB s7.2) false true))] (fin_frame_Read_L0 p_b r).1 (fin_frame_Read_L0 p_b r).2.1 (fin_frame_Read_L0 p_b r).2.2 :=
  loop_of (st := st_frame_Read_L0 p_b) (fin := fin_frame_Read_L0 p_b) (step := frame_Read_L0_s p_b) (fun e => by (intro h; cases h)) (fun s x h => b_frame_Read_L0 d h) KK s7 r h

def frame_Read (p_b : List UInt8) : Option (List (List UInt8) × Int) :=
  (frame_Read_L0 p_b (0, [])).bind fun (x11 : (Int × List (List UInt8))) => some (x11.2, x11.1)

theorem s_frame_Read (d : Nat) {p_b : List UInt8} {r : List (List UInt8) × Int} (h : frame_Read p_b = some r) : Spec (wcalls atab (d + 6)) 24 [(l_B p_b)] [] (.tuple [(l_LB r.1), (.int .i64 r.2)]) [] := by
  obtain ⟨x11, hx11⟩ : ∃ x : (Int × List (List UInt8)), x = (frame_Read_L0 p_b (0, [])).getD default := ⟨_, rfl⟩
  have e : ∀ C : ACalls, wBody C (fun _ => none) KK WF24 [(l_B p_b)] [] (.lp [none, (some true), none] [] [] .ret [(2, (.acc 0 0 1 x11.2.length true)), (3, (.int .i64 x11.1))] [(some (.cells (F_LB x11.2) false true))] (.fin (some false) [] none)) (.tuple [(l_LB r.1), (.int .i64 r.2)]) [] = (1 = 1 ∧ 1 ≤ 27 ∧ (RunS (bloop (bexec C KK 27 WB24_0) [0, 2, 3] KK) 0 [(0, (l_B p_b)), (2, (.acc 0 0 1 0 true)), (3, (.int .i64 0))] [(some (.cells (F_LB []) false true))] .ret [(2, (.acc 0 0 1 x11.2.length true)), (3, (.int .i64 x11.1))] [(some (.cells (F_LB x11.2) false true))] ∧ (@Eq AV (.tuple [(l_LB x11.2), (.int .i64 x11.1)]) (.tuple [(l_LB r.1), (.int .i64 r.2)]) ∧ @Eq WH [] []))) := fun C => by kernel_rfl
  refine spec_of (fun _ _ h => by cases h) rfl atab_24 WF24_ok ((e _).mpr ⟨rfl, by decide, ?_⟩)
  unfold frame_Read at h
  obtain ⟨q11, h⟩ := bget hx11 h
  refine ⟨s_frame_Read_L0 (d + 0) q11, ?_⟩
  obtain rfl := Option.some.inj h
  exact ⟨by wleaf, by wleaf⟩

/- osmosis/osmosislaw3.known -/
def osmosislaw3_known  : Option (Bool) :=
  (frame_Lay [] ([[(97 : UInt8)], [(98 : UInt8)]])).bind fun (x1 : List UInt8) => (slI x1 0 (if (IntKind.i64.wrap ((x1.length : Int) - 1)) > 0 then (IntKind.i64.wrap ((x1.length : Int) - 1)) else 0)).bind fun (x2 : List UInt8) => (frame_Read x2).bind fun (x3 : List (List UInt8) × Int) => cond ((x1.length : Int) == 20) (cond ((x3.1.length : Int) == 1) ((getI x3.1 0).bind fun (x4 : List UInt8) => cond (x4 == [97]) (some (x3.2 == 10)) (some false)) (some false)) (some false)

theorem s_osmosislaw3_known (d : Nat)  {r : Bool} (h : osmosislaw3_known = some r) : Spec (wcalls atab (d + 7)) 25 [] [] (.bool r) [] := by
  obtain ⟨x1, hx1⟩ : ∃ x : List UInt8, x = (frame_Lay [] ([[(97 : UInt8)], [(98 : UInt8)]])).getD default := ⟨_, rfl⟩
  obtain ⟨x2, hx2⟩ : ∃ x : List UInt8, x = (slI x1 0 (if (IntKind.i64.wrap ((x1.length : Int) - 1)) > 0 then (IntKind.i64.wrap ((x1.length : Int) - 1)) else 0)).getD default := ⟨_, rfl⟩
  obtain ⟨x3, hx3⟩ : ∃ x : List (List UInt8) × Int, x = (frame_Read x2).getD default := ⟨_, rfl⟩
  obtain ⟨x4, hx4⟩ : ∃ x : List UInt8, x = (getI x3.1 0).getD default := ⟨_, rfl⟩
  have e : ∀ C : ACalls, wBody C (fun _ => none) KK WF25 [] [] (.call [] none [] (l_B x1) [] (.v 16 (l_B x2) (.call [] (some false) [] (.tuple [(l_LB x3.1), (.int .i64 x3.2)]) [] (.br 23 (.br 28 (.v 30 (.elem ([(l_B x4)] ++ F_LB (x3.1.drop ((0 : Int).toNat + 1)))) (.v 32 (.str x4) (.br 35 (.fin (some false) [] none) (.fin (some false) [] none)))) (.fin (some false) [] none)) (.fin (some false) [] none))))) (.bool r) [] = (0 = 0 ∧ 0 ≤ 39 ∧ (Spec C 23 [(l_B []), (l_LB ([[(97 : UInt8)], [(98 : UInt8)]]))] [] (l_B x1) [] ∧ (0 ≤ 0 ∧ (wP (.slice 1 (.c (l_B x1)) none (some (.c (.int .i64 (if (IntKind.i64.wrap ((x1.length : Int) - 1)) > 0 then (IntKind.i64.wrap ((x1.length : Int) - 1)) else 0)))) none) = some (l_B x2) ∧ (Spec C 24 [(l_B x2)] [] (.tuple [(l_LB x3.1), (.int .i64 x3.2)]) [] ∧ (0 ≤ 0 ∧ ((((x1.length : Int) == 20) = true → ((((x3.1.length : Int) == 1) = true → (wP (.idxSlice 1 (.c (l_LB x3.1)) (.c (.int .i64 0))) = some (.elem ([(l_B x4)] ++ F_LB (x3.1.drop ((0 : Int).toNat + 1)))) ∧ ((toBytes (F_B x4)).map AV.str = some (.str x4) ∧ (((x4 == [97]) = true → (@Eq AV (.bool (x3.2 == 10)) (.bool r) ∧ @Eq WH [] [])) ∧ ((x4 == [97]) = false → (@Eq AV (.bool false) (.bool r) ∧ @Eq WH [] [])))))) ∧ (((x3.1.length : Int) == 1) = false → (@Eq AV (.bool false) (.bool r) ∧ @Eq WH [] [])))) ∧ (((x1.length : Int) == 20) = false → (@Eq AV (.bool false) (.bool r) ∧ @Eq WH [] []))))))))) := fun C => by kernel_rfl
  refine spec_of (fun _ _ h => by cases h) rfl atab_25 WF25_ok ((e _).mpr ⟨rfl, by decide, ?_⟩)
  unfold osmosislaw3_known at h
  obtain ⟨q1, h⟩ := bget hx1 h
  refine ⟨s_frame_Lay (d + 3) q1, ?_⟩
  refine ⟨by decide, ?_⟩
  obtain ⟨q2, h⟩ := bget hx2 h
  refine ⟨wP_sl_h R_B q2, ?_⟩
  obtain ⟨q3, h⟩ := bget hx3 h
  refine ⟨s_frame_Read (d + 0) q3, ?_⟩
  refine ⟨by decide, ?_⟩
  refine ⟨fun hb => ?_, fun hb => ?_⟩
  · have h := cond_t hb h
    refine ⟨fun hb => ?_, fun hb => ?_⟩
    · have h := cond_t hb h
      obtain ⟨q4, h⟩ := bget hx4 h
      refine ⟨wP_idx R_LB q4, ?_⟩
      refine ⟨by rw [show F_B x4 = (x4).map byteC from rfl, toBytes_map]; rfl, ?_⟩
      refine ⟨fun hb => ?_, fun hb => ?_⟩
      · have h := cond_t hb h
        obtain rfl := Option.some.inj h
        exact ⟨by wleaf, by wleaf⟩
      · have h := cond_f hb h
        obtain rfl := Option.some.inj h
        exact ⟨by wleaf, by wleaf⟩
    · have h := cond_f hb h
      obtain rfl := Option.some.inj h
      exact ⟨by wleaf, by wleaf⟩
  · have h := cond_f hb h
    obtain rfl := Option.some.inj h
    exact ⟨by wleaf, by wleaf⟩

/- osmosis/osmosishand.Few -/
def osmosishand_Few (p_b : List UInt8) (n : Int) : Option (List UInt8) :=
  cond (decide ((p_b.length : Int) > n)) ((slI p_b 0 n).bind fun (x1 : List UInt8) => gd (fitsB 1 x1.length) (some x1)) (gd (fitsB 1 p_b.length) (some p_b))

theorem s_osmosishand_Few (d : Nat) {p_b : List UInt8} {n : Int} {r : List UInt8} (h : osmosishand_Few p_b n = some r) : Spec (wcalls atab (d + 1)) 34 [(l_B p_b), (.int .i64 n)] [] (l_B r) [] := by
  obtain ⟨x1, hx1⟩ : ∃ x : List UInt8, x = (slI p_b 0 n).getD default := ⟨_, rfl⟩
  have e : ∀ C : ACalls, wBody C (fun _ => none) KK WF34 [(l_B p_b), (.int .i64 n)] [] (.br 8 (.v 11 (l_B x1) (.ap 14 x1.length (F_B x1) (.fin (some false) [] none))) (.ap 14 p_b.length (F_B p_b) (.fin (some false) [] none))) (l_B r) [] = (2 = 2 ∧ 2 ≤ 15 ∧ (((decide ((p_b.length : Int) > n)) = true → (wP (.slice 1 (.c (l_B p_b)) none (some (.c (.int .i64 n))) none) = some (l_B x1) ∧ (0 + x1.length = x1.length ∧ (F_B [] ++ F_B x1 = F_B x1 ∧ (fitsB 1 x1.length = true ∧ (@Eq AV (l_B x1) (l_B r) ∧ @Eq WH [] [])))))) ∧ ((decide ((p_b.length : Int) > n)) = false → (0 + p_b.length = p_b.length ∧ (F_B [] ++ F_B p_b = F_B p_b ∧ (fitsB 1 p_b.length = true ∧ (@Eq AV (l_B p_b) (l_B r) ∧ @Eq WH [] []))))))) := fun C => by kernel_rfl
  refine spec_of (fun _ _ h => by cases h) rfl atab_34 WF34_ok ((e _).mpr ⟨rfl, by decide, ?_⟩)
  unfold osmosishand_Few at h
  refine ⟨fun hb => ?_, fun hb => ?_⟩
  · have h := cond_t hb h
    obtain ⟨q1, h⟩ := bget hx1 h
    refine ⟨wP_sl_h R_B q1, ?_⟩
    obtain ⟨q2, h⟩ := gd_some h
    refine ⟨by simp, ?_⟩
    refine ⟨by first | rfl | simp [F_B], ?_⟩
    refine ⟨q2, ?_⟩
    obtain rfl := Option.some.inj h
    exact ⟨by wleaf, by wleaf⟩
  · have h := cond_f hb h
    obtain ⟨q3, h⟩ := gd_some h
    refine ⟨by simp, ?_⟩
    refine ⟨by first | rfl | simp [F_B], ?_⟩
    refine ⟨q3, ?_⟩
    obtain rfl := Option.some.inj h
    exact ⟨by wleaf, by wleaf⟩

/- osmosis/osmosislaw3.some -/
def fin_osmosislaw3_some_J0 (s11 : Int × List (List UInt8)) (l : List (List UInt8)) : Unit ⊕ Unit → Ex × Fast × WH := fun
  | .inl e => (.normal, [(0, (l_LB l)), (3, (.acc 0 0 1 s11.2.length true)), (4, (.int .i64 s11.1))], [(some (.cells (F_LB s11.2) false true))])
  | .inr e => ((.exit 0), [(3, (.acc 0 0 1 s11.2.length true))], [(some (.cells (F_LB s11.2) false true))])
def osmosislaw3_some_J0 (s11 : Int × List (List UInt8)) (l : List (List UInt8)) : Option (Unit ⊕ Unit) :=
  cond (decide (s11.1 < (l.length : Int))) (cond (decide (s11.1 < 8)) (some (.inl ())) (some (.inr ()))) (some (.inr ()))
theorem s_osmosislaw3_some_J0 (d : Nat) {s11 : Int × List (List UInt8)} {l : List (List UInt8)} {r : Unit ⊕ Unit} (h : osmosislaw3_some_J0 s11 l = some r) : RunS (bexec (wcalls atab (d + 0)) KK 24 WJ26_bbabkla) 0 [(0, (l_LB l)), (3, (.acc 0 0 1 s11.2.length true)), (4, (.int .i64 s11.1))] [(some (.cells (F_LB s11.2) false true))] (fin_osmosislaw3_some_J0 s11 l r).1 (fin_osmosislaw3_some_J0 s11 l r).2.1 (fin_osmosislaw3_some_J0 s11 l r).2.2 := by
  have e : ∀ C : ACalls, wCode C (fun _ => none) KK 24 0 WJ26_bbabkla [(0, (l_LB l)), (3, (.acc 0 0 1 s11.2.length true)), (4, (.int .i64 s11.1))] [(some (.cells (F_LB s11.2) false true))] (.br 9 (.br 12 (.en [0, 3, 4] [none, none, none] [] []) (.en [3] [none] [] [])) (.en [3] [none] [] [])) (fin_osmosislaw3_some_J0 s11 l r) = (((decide (s11.1 < (l.length : Int))) = true → (((decide (s11.1 < 8)) = true → (.normal = (fin_osmosislaw3_some_J0 s11 l r).1 ∧ [(0, (l_LB l)), (3, (.acc 0 0 1 s11.2.length true)), (4, (.int .i64 s11.1))] = (fin_osmosislaw3_some_J0 s11 l r).2.1 ∧ [(some (.cells (F_LB s11.2) false true))] = (fin_osmosislaw3_some_J0 s11 l r).2.2)) ∧ ((decide (s11.1 < 8)) = false → ((.exit 0) = (fin_osmosislaw3_some_J0 s11 l r).1 ∧ [(3, (.acc 0 0 1 s11.2.length true))] = (fin_osmosislaw3_some_J0 s11 l r).2.1 ∧ [(some (.cells (F_LB s11.2) false true))] = (fin_osmosislaw3_some_J0 s11 l r).2.2)))) ∧ ((decide (s11.1 < (l.length : Int))) = false → ((.exit 0) = (fin_osmosislaw3_some_J0 s11 l r).1 ∧ [(3, (.acc 0 0 1 s11.2.length true))] = (fin_osmosislaw3_some_J0 s11 l r).2.1 ∧ [(some (.cells (F_LB s11.2) false true))] = (fin_osmosislaw3_some_J0 s11 l r).2.2))) := fun C => by kernel_rfl
  refine runS_of (fun _ _ h => by cases h) WJ26_bbabkla_ok (Nat.le_of_ble_eq_true rfl) ((e _).mpr ?_)
  unfold osmosislaw3_some_J0 at h
  refine ⟨fun hb => ?_, fun hb => ?_⟩
  · have h := cond_t hb h
    refine ⟨fun hb => ?_, fun hb => ?_⟩
    · have h := cond_t hb h
      obtain rfl := Option.some.inj h
      exact ⟨rfl, by first | rfl | (simp only [roundX, zipKeep, fin_osmosislaw3_some_J0, List.length_set, List.length_append, List.length_replicate, List.length_cons, List.length_nil, Nat.add_zero, Nat.zero_add]; done) | simp [roundX, zipKeep, fin_osmosislaw3_some_J0], by first | rfl | (simp only [roundX, zipKeep, fin_osmosislaw3_some_J0, List.length_set, List.length_append, List.length_replicate, List.length_cons, List.length_nil, Nat.add_zero, Nat.zero_add]; done) | simp [roundX, zipKeep, fin_osmosislaw3_some_J0]⟩
    · have h := cond_f hb h
      obtain rfl := Option.some.inj h
      exact ⟨rfl, by first | rfl | (simp only [roundX, zipKeep, fin_osmosislaw3_some_J0, List.length_set, List.length_append, List.length_replicate, List.length_cons, List.length_nil, Nat.add_zero, Nat.zero_add]; done) | simp [roundX, zipKeep, fin_osmosislaw3_some_J0], by first | rfl | (simp only [roundX, zipKeep, fin_osmosislaw3_some_J0, List.length_set, List.length_append, List.length_replicate, List.length_cons, List.length_nil, Nat.add_zero, Nat.zero_add]; done) | simp [roundX, zipKeep, fin_osmosislaw3_some_J0]⟩
  · have h := cond_f hb h
    obtain rfl := Option.some.inj h
    exact ⟨rfl, by first | rfl | (simp only [roundX, zipKeep, fin_osmosislaw3_some_J0, List.length_set, List.length_append, List.length_replicate, List.length_cons, List.length_nil, Nat.add_zero, Nat.zero_add]; done) | simp [roundX, zipKeep, fin_osmosislaw3_some_J0], by first | rfl | (simp only [roundX, zipKeep, fin_osmosislaw3_some_J0, List.length_set, List.length_append, List.length_replicate, List.length_cons, List.length_nil, Nat.add_zero, Nat.zero_add]; done) | simp [roundX, zipKeep, fin_osmosislaw3_some_J0]⟩

def st_osmosislaw3_some_L1 (l : List (List UInt8)) (s11 : Int × List (List UInt8)) : List AV × WH := ([(l_LB l), (.acc 0 0 1 s11.2.length true), (.int .i64 s11.1)], [(some (.cells (F_LB s11.2) false true))])
def fin_osmosislaw3_some_L1 (l : List (List UInt8)) : (List (List UInt8)) → Ex × Fast × WH := fun e => ((.exit 0), [(3, (.acc 0 0 1 e.length true))], [(some (.cells (F_LB e) false true))])
def osmosislaw3_some_L1_s (l : List (List UInt8)) (s11 : Int × List (List UInt8)) : Option ((Int × List (List UInt8)) ⊕ ((List (List UInt8)))) :=
  (osmosislaw3_some_J0 s11 l).bind fun (x12 : Unit ⊕ Unit) => cond (isL x12) ((getI l s11.1).bind fun (x14 : List UInt8) => (osmosishand_Few x14 200).bind fun (x15 : List UInt8) => gd (fitsB 24 (s11.2 ++ [x15]).length) (some (.inl ((IntKind.i64.wrap (s11.1 + 1)), (s11.2 ++ [x15]))))) (some (.inr s11.2))
def osmosislaw3_some_L1 (l : List (List UInt8)) (s11 : Int × List (List UInt8)) : Option ((List (List UInt8))) := loopX (osmosislaw3_some_L1_s l) KK s11
theorem b_osmosislaw3_some_L1 (d : Nat) {l : List (List UInt8)} {s11 : Int × List (List UInt8)} {r : (Int × List (List UInt8)) ⊕ ((List (List UInt8)))} (h : osmosislaw3_some_L1_s l s11 = some r) : RunS (bexec (wcalls atab (d + 1)) KK 24 WB26_0) 0 [(0, (l_LB l)), (3, (.acc 0 0 1 s11.2.length true)), (4, (.int .i64 s11.1))] [(some (.cells (F_LB s11.2) false true))] (roundX [0, 3, 4] (st_osmosislaw3_some_L1 l) (fin_osmosislaw3_some_L1 l) r).1 (roundX [0, 3, 4] (st_osmosislaw3_some_L1 l) (fin_osmosislaw3_some_L1 l) r).2.1 (roundX [0, 3, 4] (st_osmosislaw3_some_L1 l) (fin_osmosislaw3_some_L1 l) r).2.2 := by
  obtain ⟨x12, hx12⟩ : ∃ x : Unit ⊕ Unit, x = (osmosislaw3_some_J0 s11 l).getD default := ⟨_, rfl⟩
  obtain ⟨x14, hx14⟩ : ∃ x : List UInt8, x = (getI l s11.1).getD default := ⟨_, rfl⟩
  obtain ⟨x15, hx15⟩ : ∃ x : List UInt8, x = (osmosishand_Few x14 200).getD default := ⟨_, rfl⟩
  have e : ∀ C : ACalls, wCode C (fun _ => none) KK 24 0 WB26_0 [(0, (l_LB l)), (3, (.acc 0 0 1 s11.2.length true)), (4, (.int .i64 s11.1))] [(some (.cells (F_LB s11.2) false true))] (.ite (isL x12) (.jn [0, 3, 4] [none, none, none] [] [] .normal [(0, (l_LB l)), (3, (.acc 0 0 1 s11.2.length true)), (4, (.int .i64 s11.1))] [(some (.cells (F_LB s11.2) false true))] (.v 18 (.elem ([(l_B x14)] ++ F_LB (l.drop (s11.1.toNat + 1)))) (.call [] (some false) [] (l_B x15) [] (.ap 22 (s11.2 ++ [x15]).length (F_LB (s11.2 ++ [x15])) (.en [0, 3, 4] [none, none, none] [] []))))) (.jn [0, 3, 4] [none, none, none] [] [] (.exit 0) [(3, (.acc 0 0 1 s11.2.length true))] [(some (.cells (F_LB s11.2) false true))] (.en [3] [none] [] []))) (roundX [0, 3, 4] (st_osmosislaw3_some_L1 l) (fin_osmosislaw3_some_L1 l) r) = (((isL x12) = true → (RunS (bexec C KK 24 WJ26_bbabkla) 0 [(0, (l_LB l)), (3, (.acc 0 0 1 s11.2.length true)), (4, (.int .i64 s11.1))] [(some (.cells (F_LB s11.2) false true))] .normal [(0, (l_LB l)), (3, (.acc 0 0 1 s11.2.length true)), (4, (.int .i64 s11.1))] [(some (.cells (F_LB s11.2) false true))] ∧ (wP (.idxSlice 1 (.c (l_LB l)) (.c (.int .i64 s11.1))) = some (.elem ([(l_B x14)] ++ F_LB (l.drop (s11.1.toNat + 1)))) ∧ (Spec C 34 [(l_B x14), (.int .i64 200)] [] (l_B x15) [] ∧ (0 ≤ 0 ∧ (s11.2.length + 1 = (s11.2 ++ [x15]).length ∧ (F_LB s11.2 ++ F_LB [x15] = F_LB (s11.2 ++ [x15]) ∧ (fitsB 24 (s11.2 ++ [x15]).length = true ∧ (.normal = (roundX [0, 3, 4] (st_osmosislaw3_some_L1 l) (fin_osmosislaw3_some_L1 l) r).1 ∧ [(0, (l_LB l)), (3, (.acc 0 0 1 ((s11.2 ++ [x15]).length) true)), (4, (.int .i64 (IntKind.i64.wrap (s11.1 + 1))))] = (roundX [0, 3, 4] (st_osmosislaw3_some_L1 l) (fin_osmosislaw3_some_L1 l) r).2.1 ∧ [(some (.cells (F_LB (s11.2 ++ [x15])) false true))] = (roundX [0, 3, 4] (st_osmosislaw3_some_L1 l) (fin_osmosislaw3_some_L1 l) r).2.2))))))))) ∧ ((isL x12) = false → (RunS (bexec C KK 24 WJ26_bbabkla) 0 [(0, (l_LB l)), (3, (.acc 0 0 1 s11.2.length true)), (4, (.int .i64 s11.1))] [(some (.cells (F_LB s11.2) false true))] (.exit 0) [(3, (.acc 0 0 1 s11.2.length true))] [(some (.cells (F_LB s11.2) false true))] ∧ ((.exit 0) = (roundX [0, 3, 4] (st_osmosislaw3_some_L1 l) (fin_osmosislaw3_some_L1 l) r).1 ∧ [(3, (.acc 0 0 1 s11.2.length true))] = (roundX [0, 3, 4] (st_osmosislaw3_some_L1 l) (fin_osmosislaw3_some_L1 l) r).2.1 ∧ [(some (.cells (F_LB s11.2) false true))] = (roundX [0, 3, 4] (st_osmosislaw3_some_L1 l) (fin_osmosislaw3_some_L1 l) r).2.2)))) := fun C => by kernel_rfl
  refine runS_of (fun _ _ h => by cases h) WB26_0_ok (Nat.le_of_ble_eq_true rfl) ((e _).mpr ?_)
  unfold osmosislaw3_some_L1_s at h
  obtain ⟨q12, h⟩ := bget hx12 h
  refine ⟨fun hb13 => ?_, fun hb13 => ?_⟩
  · have h := cond_t hb13 h
    refine ⟨by have h := s_osmosislaw3_some_J0 (d + 1) q12; rw [isL_t hb13] at h; exact h, ?_⟩
    obtain ⟨q14, h⟩ := bget hx14 h
    refine ⟨wP_idx R_LB q14, ?_⟩
    obtain ⟨q15, h⟩ := bget hx15 h
    refine ⟨s_osmosishand_Few (d + 0) q15, ?_⟩
    refine ⟨by decide, ?_⟩
    obtain ⟨q16, h⟩ := gd_some h
    refine ⟨by simp, ?_⟩
    refine ⟨(Row.app R_LB _ _).symm, ?_⟩
    refine ⟨q16, ?_⟩
    obtain rfl := Option.some.inj h
    exact ⟨rfl, by first | rfl | (simp only [roundX, zipKeep, fin_osmosislaw3_some_L1, st_osmosislaw3_some_L1, List.length_set, List.length_append, List.length_replicate, List.length_cons, List.length_nil, Nat.add_zero, Nat.zero_add]; done) | simp [roundX, zipKeep, fin_osmosislaw3_some_L1, st_osmosislaw3_some_L1], by first | rfl | (simp only [roundX, zipKeep, fin_osmosislaw3_some_L1, st_osmosislaw3_some_L1, List.length_set, List.length_append, List.length_replicate, List.length_cons, List.length_nil, Nat.add_zero, Nat.zero_add]; done) | simp [roundX, zipKeep, fin_osmosislaw3_some_L1, st_osmosislaw3_some_L1]⟩
  · have h := cond_f hb13 h
    refine ⟨by have h := s_osmosislaw3_some_J0 (d + 1) q12; rw [isL_f hb13] at h; exact h, ?_⟩
    obtain rfl := Option.some.inj h
    exact ⟨rfl, by first | rfl | (simp only [roundX, zipKeep, fin_osmosislaw3_some_L1, st_osmosislaw3_some_L1, List.length_set, List.length_append, List.length_replicate, List.length_cons, List.length_nil, Nat.add_zero, Nat.zero_add]; done) | simp [roundX, zipKeep, fin_osmosislaw3_some_L1, st_osmosislaw3_some_L1], by first | rfl | (simp only [roundX, zipKeep, fin_osmosislaw3_some_L1, st_osmosislaw3_some_L1, List.length_set, List.length_append, List.length_replicate, List.length_cons, List.length_nil, Nat.add_zero, Nat.zero_add]; done) | simp [roundX, zipKeep, fin_osmosislaw3_some_L1, st_osmosislaw3_some_L1]⟩
theorem s_osmosislaw3_some_L1 (d : Nat) {l : List (List UInt8)} {s11 : Int × List (List UInt8)} {r : (List (List UInt8))} (h : osmosislaw3_some_L1 l s11 = some r) : RunS (bloop (bexec (wcalls atab (d + 1)) KK 24 WB26_0) [0, 3, 4] KK) 0 [(0, (l_LB l)), (3, (.acc 0 0 1 s11.2.length true)), (4, (.int .i64 s11.1))] [(some (.cells (F_LB s11.2) false true))] (fin_osmosislaw3_some_L1 l r).1 (fin_osmosislaw3_some_L1 l r).2.1 (fin_osmosislaw3_some_L1 l r).2.2 :=
  loop_of (st := st_osmosislaw3_some_L1 l) (fin := fin_osmosislaw3_some_L1 l) (step := osmosislaw3_some_L1_s l) (fun e => by (intro h; cases h)) (fun s x h => b_osmosislaw3_some_L1 d h) KK s11 r h

def osmosislaw3_some (l : List (List UInt8)) : Option (List (List UInt8)) :=
  (osmosislaw3_some_L1 l (0, [])).bind fun (x17 : (List (List UInt8))) => some x17

theorem s_osmosislaw3_some (d : Nat) {l : List (List UInt8)} {r : List (List UInt8)} (h : osmosislaw3_some l = some r) : Spec (wcalls atab (d + 2)) 26 [(l_LB l)] [] (l_LB r) [] := by
  obtain ⟨x17, hx17⟩ : ∃ x : (List (List UInt8)), x = (osmosislaw3_some_L1 l (0, [])).getD default := ⟨_, rfl⟩
  have e : ∀ C : ACalls, wBody C (fun _ => none) KK WF26 [(l_LB l)] [] (.lp [none, (some true), none] [] [] (.exit 0) [(3, (.acc 0 0 1 x17.length true))] [(some (.cells (F_LB x17) false true))] (.fin (some false) [] none)) (l_LB r) [] = (1 = 1 ∧ 1 ≤ 24 ∧ (RunS (bloop (bexec C KK 24 WB26_0) [0, 3, 4] KK) 0 [(0, (l_LB l)), (3, (.acc 0 0 1 0 true)), (4, (.int .i64 0))] [(some (.cells (F_LB []) false true))] (.exit 0) [(3, (.acc 0 0 1 x17.length true))] [(some (.cells (F_LB x17) false true))] ∧ (@Eq AV (l_LB x17) (l_LB r) ∧ @Eq WH [] []))) := fun C => by kernel_rfl
  refine spec_of (fun _ _ h => by cases h) rfl atab_26 WF26_ok ((e _).mpr ⟨rfl, by decide, ?_⟩)
  unfold osmosislaw3_some at h
  obtain ⟨q17, h⟩ := bget hx17 h
  refine ⟨s_osmosislaw3_some_L1 (d + 0) q17, ?_⟩
  obtain rfl := Option.some.inj h
  exact ⟨by wleaf, by wleaf⟩

/- osmosis/osmosisref1.May -/
def osmosisref1_May (n : Int) : Option (Bool) :=
  cond (decide (n ≥ 0)) (some (decide (n ≤ 4611686018427387903))) (some false)

theorem s_osmosisref1_May (d : Nat) {n : Int} {r : Bool} (h : osmosisref1_May n = some r) : Spec (wcalls atab (d + 1)) 121 [(.int .i64 n)] [] (.bool r) [] := by
  have e : ∀ C : ACalls, wBody C (fun _ => none) KK WF121 [(.int .i64 n)] [] (.br 5 (.fin (some false) [] none) (.fin (some false) [] none)) (.bool r) [] = (1 = 1 ∧ 1 ≤ 9 ∧ (((decide (n ≥ 0)) = true → (@Eq AV (.bool (decide (n ≤ 4611686018427387903))) (.bool r) ∧ @Eq WH [] [])) ∧ ((decide (n ≥ 0)) = false → (@Eq AV (.bool false) (.bool r) ∧ @Eq WH [] [])))) := fun C => by kernel_rfl
  refine spec_of (fun _ _ h => by cases h) rfl atab_121 WF121_ok ((e _).mpr ⟨rfl, by decide, ?_⟩)
  unfold osmosisref1_May at h
  refine ⟨fun hb => ?_, fun hb => ?_⟩
  · have h := cond_t hb h
    obtain rfl := Option.some.inj h
    exact ⟨by wleaf, by wleaf⟩
  · have h := cond_f hb h
    obtain rfl := Option.some.inj h
    exact ⟨by wleaf, by wleaf⟩

/- osmosis/osmosisref1.step -/
def osmosisref1_step (p_h : Int) (c : Int) : Option (Int) :=
  some (IntKind.u64.wrap ((xorI .u64 p_h c) * 1099511628211))

theorem s_osmosisref1_step (d : Nat) {p_h : Int} {c : Int} {r : Int} (h : osmosisref1_step p_h c = some r) : Spec (wcalls atab (d + 1)) 122 [(.int .u64 p_h), (.int .u64 c)] [] (.int .u64 r) [] := by
  have e : ∀ C : ACalls, wBody C (fun _ => none) KK WF122 [(.int .u64 p_h), (.int .u64 c)] [] (.fin (some false) [] none) (.int .u64 r) [] = (2 = 2 ∧ 2 ≤ 9 ∧ (@Eq AV (.int .u64 (IntKind.u64.wrap ((xorI .u64 p_h c) * 1099511628211))) (.int .u64 r) ∧ @Eq WH [] [])) := fun C => by kernel_rfl
  refine spec_of (fun _ _ h => by cases h) rfl atab_122 WF122_ok ((e _).mpr ⟨rfl, by decide, ?_⟩)
  unfold osmosisref1_step at h
  obtain rfl := Option.some.inj h
  exact ⟨by wleaf, by wleaf⟩

/- osmosis/osmosisref1.Sum -/
def st_osmosisref1_Sum_L0 (parts : List (List UInt8)) (s12 : Int × Int) (s17 : Int × Int) : List AV × WH := ([(l_S parts), (.int .u64 s17.1), (.int .i64 s12.2), (.int .i64 s17.2)], [])
def fin_osmosisref1_Sum_L0 (parts : List (List UInt8)) (s12 : Int × Int) : Int → Ex × Fast × WH := fun e => ((.exit 2), [(0, (l_S parts)), (3, (.int .u64 e)), (4, (.int .i64 s12.2))], [])
def osmosisref1_Sum_L0_s (parts : List (List UInt8)) (s12 : Int × Int) (s17 : Int × Int) : Option ((Int × Int) ⊕ (Int)) :=
  (getI parts s12.2).bind fun (x18 : List UInt8) => cond (decide (s17.2 < (x18.length : Int))) ((getI parts s12.2).bind fun (x19 : List UInt8) => (getI x19 s17.2).bind fun (x20 : UInt8) => (osmosisref1_step s17.1 (IntKind.u64.wrap (x20.toNat : Int))).bind fun (x21 : Int) => some (.inl (x21, (IntKind.i64.wrap (s17.2 + 1))))) (some (.inr s17.1))
def osmosisref1_Sum_L0 (parts : List (List UInt8)) (s12 : Int × Int) (s17 : Int × Int) : Option (Int) := loopX (osmosisref1_Sum_L0_s parts s12) KK s17
theorem b_osmosisref1_Sum_L0 (d : Nat) {parts : List (List UInt8)} {s12 : Int × Int} {s17 : Int × Int} {r : (Int × Int) ⊕ (Int)} (h : osmosisref1_Sum_L0_s parts s12 s17 = some r) : RunS (bexec (wcalls atab (d + 1)) KK 33 WB89_1) 0 [(0, (l_S parts)), (3, (.int .u64 s17.1)), (4, (.int .i64 s12.2)), (5, (.int .i64 s17.2))] [] (roundX [0, 3, 4, 5] (st_osmosisref1_Sum_L0 parts s12) (fin_osmosisref1_Sum_L0 parts s12) r).1 (roundX [0, 3, 4, 5] (st_osmosisref1_Sum_L0 parts s12) (fin_osmosisref1_Sum_L0 parts s12) r).2.1 (roundX [0, 3, 4, 5] (st_osmosisref1_Sum_L0 parts s12) (fin_osmosisref1_Sum_L0 parts s12) r).2.2 := by
  obtain ⟨x18, hx18⟩ : ∃ x : List UInt8, x = (getI parts s12.2).getD default := ⟨_, rfl⟩
  obtain ⟨x19, hx19⟩ : ∃ x : List UInt8, x = (getI parts s12.2).getD default := ⟨_, rfl⟩
  obtain ⟨x20, hx20⟩ : ∃ x : UInt8, x = (getI x19 s17.2).getD default := ⟨_, rfl⟩
  obtain ⟨x21, hx21⟩ : ∃ x : Int, x = (osmosisref1_step s17.1 (IntKind.u64.wrap (x20.toNat : Int))).getD default := ⟨_, rfl⟩
  have e : ∀ C : ACalls, wCode C (fun _ => none) KK 33 0 WB89_1 [(0, (l_S parts)), (3, (.int .u64 s17.1)), (4, (.int .i64 s12.2)), (5, (.int .i64 s17.2))] [] (.v 15 (.elem ([(.str x18)] ++ F_S (parts.drop (s12.2.toNat + 1)))) (.br 18 (.v 24 (.elem ([(.str x19)] ++ F_S (parts.drop (s12.2.toNat + 1)))) (.v 27 (.int .u8 (x20.toNat : Int)) (.cb [] [] (.int .u64 x21) (.en [0, 3, 4, 5] [none, none, none, none] [] [])))) (.en [0, 3, 4] [none, none, none] [] []))) (roundX [0, 3, 4, 5] (st_osmosisref1_Sum_L0 parts s12) (fin_osmosisref1_Sum_L0 parts s12) r) = (wP (.idxSlice 1 (.c (l_S parts)) (.c (.int .i64 s12.2))) = some (.elem ([(.str x18)] ++ F_S (parts.drop (s12.2.toNat + 1)))) ∧ (((decide (s17.2 < (x18.length : Int))) = true → (wP (.idxSlice 1 (.c (l_S parts)) (.c (.int .i64 s12.2))) = some (.elem ([(.str x19)] ++ F_S (parts.drop (s12.2.toNat + 1)))) ∧ (wP (.indexStr (.c (.str x19)) (.c (.int .i64 s17.2))) = some (.int .u8 x20.toNat) ∧ (Spec C 122 [(.int .u64 s17.1), (.int .u64 (IntKind.u64.wrap (x20.toNat : Int)))] [] (.int .u64 x21) [] ∧ (.normal = (roundX [0, 3, 4, 5] (st_osmosisref1_Sum_L0 parts s12) (fin_osmosisref1_Sum_L0 parts s12) r).1 ∧ [(0, (l_S parts)), (3, (.int .u64 x21)), (4, (.int .i64 s12.2)), (5, (.int .i64 (IntKind.i64.wrap (s17.2 + 1))))] = (roundX [0, 3, 4, 5] (st_osmosisref1_Sum_L0 parts s12) (fin_osmosisref1_Sum_L0 parts s12) r).2.1 ∧ [] = (roundX [0, 3, 4, 5] (st_osmosisref1_Sum_L0 parts s12) (fin_osmosisref1_Sum_L0 parts s12) r).2.2))))) ∧ ((decide (s17.2 < (x18.length : Int))) = false → ((.exit 2) = (roundX [0, 3, 4, 5] (st_osmosisref1_Sum_L0 parts s12) (fin_osmosisref1_Sum_L0 parts s12) r).1 ∧ [(0, (l_S parts)), (3, (.int .u64 s17.1)), (4, (.int .i64 s12.2))] = (roundX [0, 3, 4, 5] (st_osmosisref1_Sum_L0 parts s12) (fin_osmosisref1_Sum_L0 parts s12) r).2.1 ∧ [] = (roundX [0, 3, 4, 5] (st_osmosisref1_Sum_L0 parts s12) (fin_osmosisref1_Sum_L0 parts s12) r).2.2)))) := fun C => by kernel_rfl
  refine runS_of (fun _ _ h => by cases h) WB89_1_ok (Nat.le_of_ble_eq_true rfl) ((e _).mpr ?_)
  unfold osmosisref1_Sum_L0_s at h
  obtain ⟨q18, h⟩ := bget hx18 h
  refine ⟨wP_idx R_S q18, ?_⟩
  refine ⟨fun hb => ?_, fun hb => ?_⟩
  · have h := cond_t hb h
    obtain ⟨q19, h⟩ := bget hx19 h
    refine ⟨wP_idx R_S q19, ?_⟩
    obtain ⟨q20, h⟩ := bget hx20 h
    refine ⟨wP_iS q20, ?_⟩
    obtain ⟨q21, h⟩ := bget hx21 h
    refine ⟨s_osmosisref1_step (d + 0) q21, ?_⟩
    obtain rfl := Option.some.inj h
    exact ⟨rfl, by first | rfl | (simp only [roundX, zipKeep, fin_osmosisref1_Sum_L0, st_osmosisref1_Sum_L0, List.length_set, List.length_append, List.length_replicate, List.length_cons, List.length_nil, Nat.add_zero, Nat.zero_add]; done) | simp [roundX, zipKeep, fin_osmosisref1_Sum_L0, st_osmosisref1_Sum_L0], by first | rfl | (simp only [roundX, zipKeep, fin_osmosisref1_Sum_L0, st_osmosisref1_Sum_L0, List.length_set, List.length_append, List.length_replicate, List.length_cons, List.length_nil, Nat.add_zero, Nat.zero_add]; done) | simp [roundX, zipKeep, fin_osmosisref1_Sum_L0, st_osmosisref1_Sum_L0]⟩
  · have h := cond_f hb h
    obtain rfl := Option.some.inj h
    exact ⟨rfl, by first | rfl | (simp only [roundX, zipKeep, fin_osmosisref1_Sum_L0, st_osmosisref1_Sum_L0, List.length_set, List.length_append, List.length_replicate, List.length_cons, List.length_nil, Nat.add_zero, Nat.zero_add]; done) | simp [roundX, zipKeep, fin_osmosisref1_Sum_L0, st_osmosisref1_Sum_L0], by first | rfl | (simp only [roundX, zipKeep, fin_osmosisref1_Sum_L0, st_osmosisref1_Sum_L0, List.length_set, List.length_append, List.length_replicate, List.length_cons, List.length_nil, Nat.add_zero, Nat.zero_add]; done) | simp [roundX, zipKeep, fin_osmosisref1_Sum_L0, st_osmosisref1_Sum_L0]⟩
theorem s_osmosisref1_Sum_L0 (d : Nat) {parts : List (List UInt8)} {s12 : Int × Int} {s17 : Int × Int} {r : Int} (h : osmosisref1_Sum_L0 parts s12 s17 = some r) : RunS (bloop (bexec (wcalls atab (d + 1)) KK 33 WB89_1) [0, 3, 4, 5] KK) 0 [(0, (l_S parts)), (3, (.int .u64 s17.1)), (4, (.int .i64 s12.2)), (5, (.int .i64 s17.2))] [] (fin_osmosisref1_Sum_L0 parts s12 r).1 (fin_osmosisref1_Sum_L0 parts s12 r).2.1 (fin_osmosisref1_Sum_L0 parts s12 r).2.2 :=
  loop_of (st := st_osmosisref1_Sum_L0 parts s12) (fin := fin_osmosisref1_Sum_L0 parts s12) (step := osmosisref1_Sum_L0_s parts s12) (fun e => by (intro h; cases h)) (fun s x h => b_osmosisref1_Sum_L0 d h) KK s17 r h

def st_osmosisref1_Sum_L1 (parts : List (List UInt8)) (s12 : Int × Int) : List AV × WH := ([(l_S parts), (.int .u64 s12.1), (.int .i64 s12.2)], [])
def fin_osmosisref1_Sum_L1 (parts : List (List UInt8)) : Int → Ex × Fast × WH := fun e => ((.exit 0), [(3, (.int .u64 e))], [])
def osmosisref1_Sum_L1_s (parts : List (List UInt8)) (s12 : Int × Int) : Option ((Int × Int) ⊕ (Int)) :=
  cond (decide (s12.2 < (parts.length : Int))) ((osmosisref1_Sum_L0 parts s12 (s12.1, 0)).bind fun (x22 : Int) => (osmosisref1_step x22 256).bind fun (x23 : Int) => some (.inl (x23, (IntKind.i64.wrap (s12.2 + 1))))) (some (.inr s12.1))
def osmosisref1_Sum_L1 (parts : List (List UInt8)) (s12 : Int × Int) : Option (Int) := loopX (osmosisref1_Sum_L1_s parts) KK s12
theorem b_osmosisref1_Sum_L1 (d : Nat) {parts : List (List UInt8)} {s12 : Int × Int} {r : (Int × Int) ⊕ (Int)} (h : osmosisref1_Sum_L1_s parts s12 = some r) : RunS (bexec (wcalls atab (d + 1)) KK 33 WB89_0) 0 [(0, (l_S parts)), (3, (.int .u64 s12.1)), (4, (.int .i64 s12.2))] [] (roundX [0, 3, 4] (st_osmosisref1_Sum_L1 parts) (fin_osmosisref1_Sum_L1 parts) r).1 (roundX [0, 3, 4] (st_osmosisref1_Sum_L1 parts) (fin_osmosisref1_Sum_L1 parts) r).2.1 (roundX [0, 3, 4] (st_osmosisref1_Sum_L1 parts) (fin_osmosisref1_Sum_L1 parts) r).2.2 := by
  obtain ⟨x22, hx22⟩ : ∃ x : Int, x = (osmosisref1_Sum_L0 parts s12 (s12.1, 0)).getD default := ⟨_, rfl⟩
  obtain ⟨x23, hx23⟩ : ∃ x : Int, x = (osmosisref1_step x22 256).getD default := ⟨_, rfl⟩
  have e : ∀ C : ACalls, wCode C (fun _ => none) KK 33 0 WB89_0 [(0, (l_S parts)), (3, (.int .u64 s12.1)), (4, (.int .i64 s12.2))] [] (.br 9 (.lp [none, none, none, none] [] [] (.exit 2) [(0, (l_S parts)), (3, (.int .u64 x22)), (4, (.int .i64 s12.2))] [] (.cb [] [] (.int .u64 x23) (.en [0, 3, 4] [none, none, none] [] []))) (.en [3] [none] [] [])) (roundX [0, 3, 4] (st_osmosisref1_Sum_L1 parts) (fin_osmosisref1_Sum_L1 parts) r) = (((decide (s12.2 < (parts.length : Int))) = true → (RunS (bloop (bexec C KK 33 WB89_1) [0, 3, 4, 5] KK) 0 [(0, (l_S parts)), (3, (.int .u64 s12.1)), (4, (.int .i64 s12.2)), (5, (.int .i64 0))] [] (.exit 2) [(0, (l_S parts)), (3, (.int .u64 x22)), (4, (.int .i64 s12.2))] [] ∧ (Spec C 122 [(.int .u64 x22), (.int .u64 256)] [] (.int .u64 x23) [] ∧ (.normal = (roundX [0, 3, 4] (st_osmosisref1_Sum_L1 parts) (fin_osmosisref1_Sum_L1 parts) r).1 ∧ [(0, (l_S parts)), (3, (.int .u64 x23)), (4, (.int .i64 (IntKind.i64.wrap (s12.2 + 1))))] = (roundX [0, 3, 4] (st_osmosisref1_Sum_L1 parts) (fin_osmosisref1_Sum_L1 parts) r).2.1 ∧ [] = (roundX [0, 3, 4] (st_osmosisref1_Sum_L1 parts) (fin_osmosisref1_Sum_L1 parts) r).2.2)))) ∧ ((decide (s12.2 < (parts.length : Int))) = false → ((.exit 0) = (roundX [0, 3, 4] (st_osmosisref1_Sum_L1 parts) (fin_osmosisref1_Sum_L1 parts) r).1 ∧ [(3, (.int .u64 s12.1))] = (roundX [0, 3, 4] (st_osmosisref1_Sum_L1 parts) (fin_osmosisref1_Sum_L1 parts) r).2.1 ∧ [] = (roundX [0, 3, 4] (st_osmosisref1_Sum_L1 parts) (fin_osmosisref1_Sum_L1 parts) r).2.2))) := fun C => by kernel_rfl
  refine runS_of (fun _ _ h => by cases h) WB89_0_ok (Nat.le_of_ble_eq_true rfl) ((e _).mpr ?_)
  unfold osmosisref1_Sum_L1_s at h
  refine ⟨fun hb => ?_, fun hb => ?_⟩
  · have h := cond_t hb h
    obtain ⟨q22, h⟩ := bget hx22 h
    refine ⟨s_osmosisref1_Sum_L0 (d + 0) q22, ?_⟩
    obtain ⟨q23, h⟩ := bget hx23 h
    refine ⟨s_osmosisref1_step (d + 0) q23, ?_⟩
    obtain rfl := Option.some.inj h
    exact ⟨rfl, by first | rfl | (simp only [roundX, zipKeep, fin_osmosisref1_Sum_L1, st_osmosisref1_Sum_L1, List.length_set, List.length_append, List.length_replicate, List.length_cons, List.length_nil, Nat.add_zero, Nat.zero_add]; done) | simp [roundX, zipKeep, fin_osmosisref1_Sum_L1, st_osmosisref1_Sum_L1], by first | rfl | (simp only [roundX, zipKeep, fin_osmosisref1_Sum_L1, st_osmosisref1_Sum_L1, List.length_set, List.length_append, List.length_replicate, List.length_cons, List.length_nil, Nat.add_zero, Nat.zero_add]; done) | simp [roundX, zipKeep, fin_osmosisref1_Sum_L1, st_osmosisref1_Sum_L1]⟩
  · have h := cond_f hb h
    obtain rfl := Option.some.inj h
    exact ⟨rfl, by first | rfl | (simp only [roundX, zipKeep, fin_osmosisref1_Sum_L1, st_osmosisref1_Sum_L1, List.length_set, List.length_append, List.length_replicate, List.length_cons, List.length_nil, Nat.add_zero, Nat.zero_add]; done) | simp [roundX, zipKeep, fin_osmosisref1_Sum_L1, st_osmosisref1_Sum_L1], by first | rfl | (simp only [roundX, zipKeep, fin_osmosisref1_Sum_L1, st_osmosisref1_Sum_L1, List.length_set, List.length_append, List.length_replicate, List.length_cons, List.length_nil, Nat.add_zero, Nat.zero_add]; done) | simp [roundX, zipKeep, fin_osmosisref1_Sum_L1, st_osmosisref1_Sum_L1]⟩
theorem s_osmosisref1_Sum_L1 (d : Nat) {parts : List (List UInt8)} {s12 : Int × Int} {r : Int} (h : osmosisref1_Sum_L1 parts s12 = some r) : RunS (bloop (bexec (wcalls atab (d + 1)) KK 33 WB89_0) [0, 3, 4] KK) 0 [(0, (l_S parts)), (3, (.int .u64 s12.1)), (4, (.int .i64 s12.2))] [] (fin_osmosisref1_Sum_L1 parts r).1 (fin_osmosisref1_Sum_L1 parts r).2.1 (fin_osmosisref1_Sum_L1 parts r).2.2 :=
  loop_of (st := st_osmosisref1_Sum_L1 parts) (fin := fin_osmosisref1_Sum_L1 parts) (step := osmosisref1_Sum_L1_s parts) (fun e => by (intro h; cases h)) (fun s x h => b_osmosisref1_Sum_L1 d h) KK s12 r h

def osmosisref1_Sum (parts : List (List UInt8)) : Option (Int) :=
  (osmosisref1_Sum_L1 parts (14695981039346656037, 0)).bind fun (x24 : Int) => some x24

theorem s_osmosisref1_Sum (d : Nat) {parts : List (List UInt8)} {r : Int} (h : osmosisref1_Sum parts = some r) : Spec (wcalls atab (d + 2)) 89 [(l_S parts)] [] (.int .u64 r) [] := by
  obtain ⟨x24, hx24⟩ : ∃ x : Int, x = (osmosisref1_Sum_L1 parts (14695981039346656037, 0)).getD default := ⟨_, rfl⟩
  have e : ∀ C : ACalls, wBody C (fun _ => none) KK WF89 [(l_S parts)] [] (.lp [none, none, none] [] [] (.exit 0) [(3, (.int .u64 x24))] [] (.fin (some false) [] none)) (.int .u64 r) [] = (1 = 1 ∧ 1 ≤ 33 ∧ (RunS (bloop (bexec C KK 33 WB89_0) [0, 3, 4] KK) 0 [(0, (l_S parts)), (3, (.int .u64 14695981039346656037)), (4, (.int .i64 0))] [] (.exit 0) [(3, (.int .u64 x24))] [] ∧ (@Eq AV (.int .u64 x24) (.int .u64 r) ∧ @Eq WH [] []))) := fun C => by kernel_rfl
  refine spec_of (fun _ _ h => by cases h) rfl atab_89 WF89_ok ((e _).mpr ⟨rfl, by decide, ?_⟩)
  unfold osmosisref1_Sum at h
  obtain ⟨q24, h⟩ := bget hx24 h
  refine ⟨s_osmosisref1_Sum_L1 (d + 0) q24, ?_⟩
  obtain rfl := Option.some.inj h
  exact ⟨by wleaf, by wleaf⟩

/- osmosis/osmosisref1.eight -/
def st_osmosisref1_eight_L0  (s3 : Int × Int × List UInt8) : List AV × WH := ([(.int .u64 s3.1), (.acc 0 0 1 s3.2.2.length true), (.int .i64 s3.2.1)], [(some (.cells (F_B s3.2.2) false true))])
def fin_osmosisref1_eight_L0  : (List UInt8) → Ex × Fast × WH := fun e => ((.exit 0), [(3, (.acc 0 0 1 e.length true))], [(some (.cells (F_B e) false true))])
def osmosisref1_eight_L0_s  (s3 : Int × Int × List UInt8) : Option ((Int × Int × List UInt8) ⊕ ((List UInt8))) :=
  cond (decide (s3.2.1 ≥ 0)) ((getI s3.2.2 s3.2.1).bind fun (x4 : UInt8) => some (.inl ((IntKind.u64.wrap (Int.tdiv s3.1 256)), (IntKind.i64.wrap (s3.2.1 - 1)), (s3.2.2.set s3.2.1.toNat (u8w (Int.tmod s3.1 256)))))) (some (.inr s3.2.2))
def osmosisref1_eight_L0  (s3 : Int × Int × List UInt8) : Option ((List UInt8)) := loopX (osmosisref1_eight_L0_s) KK s3
theorem b_osmosisref1_eight_L0 (d : Nat)  {s3 : Int × Int × List UInt8} {r : (Int × Int × List UInt8) ⊕ ((List UInt8))} (h : osmosisref1_eight_L0_s s3 = some r) : RunS (bexec (wcalls atab (d + 0)) KK 19 WB88_0) 0 [(0, (.int .u64 s3.1)), (3, (.acc 0 0 1 s3.2.2.length true)), (4, (.int .i64 s3.2.1))] [(some (.cells (F_B s3.2.2) false true))] (roundX [0, 3, 4] (st_osmosisref1_eight_L0) (fin_osmosisref1_eight_L0) r).1 (roundX [0, 3, 4] (st_osmosisref1_eight_L0) (fin_osmosisref1_eight_L0) r).2.1 (roundX [0, 3, 4] (st_osmosisref1_eight_L0) (fin_osmosisref1_eight_L0) r).2.2 := by
  obtain ⟨x4, hx4⟩ : ∃ x : UInt8, x = (getI s3.2.2 s3.2.1).getD default := ⟨_, rfl⟩
  have e : ∀ C : ACalls, wCode C (fun _ => none) KK 19 0 WB88_0 [(0, (.int .u64 s3.1)), (3, (.acc 0 0 1 s3.2.2.length true)), (4, (.int .i64 s3.2.1))] [(some (.cells (F_B s3.2.2) false true))] (.br 7 (.v 14 (.int .u8 ((u8w (Int.tmod s3.1 256)).toNat : Int)) (.v 15 (.ptr (some (0, 0 + s3.2.1.toNat * 1))) (.st (some (F_B (s3.2.2.set s3.2.1.toNat (u8w (Int.tmod s3.1 256))))) (.en [0, 3, 4] [none, none, none] [] [])))) (.en [3] [none] [] [])) (roundX [0, 3, 4] (st_osmosisref1_eight_L0) (fin_osmosisref1_eight_L0) r) = (((decide (s3.2.1 ≥ 0)) = true → (@Eq (Option AV) (some (.int .u8 (IntKind.u8.wrap (Int.tmod s3.1 256)))) (some (.int .u8 ((u8w (Int.tmod s3.1 256)).toNat : Int))) ∧ (wP (.idxSlice 1 (.c (.acc 0 0 1 s3.2.2.length true)) (.c (.int .i64 s3.2.1))) = some (.ptr (some (0, 0 + s3.2.1.toNat * 1))) ∧ (wrC (F_B s3.2.2) (0 + s3.2.1.toNat * 1) [(.int .u8 ((u8w (Int.tmod s3.1 256)).toNat : Int))] = some (F_B (s3.2.2.set s3.2.1.toNat (u8w (Int.tmod s3.1 256)))) ∧ (.normal = (roundX [0, 3, 4] (st_osmosisref1_eight_L0) (fin_osmosisref1_eight_L0) r).1 ∧ [(0, (.int .u64 (IntKind.u64.wrap (Int.tdiv s3.1 256)))), (3, (.acc 0 0 1 s3.2.2.length true)), (4, (.int .i64 (IntKind.i64.wrap (s3.2.1 - 1))))] = (roundX [0, 3, 4] (st_osmosisref1_eight_L0) (fin_osmosisref1_eight_L0) r).2.1 ∧ [(some (.cells (F_B (s3.2.2.set s3.2.1.toNat (u8w (Int.tmod s3.1 256)))) false true))] = (roundX [0, 3, 4] (st_osmosisref1_eight_L0) (fin_osmosisref1_eight_L0) r).2.2))))) ∧ ((decide (s3.2.1 ≥ 0)) = false → ((.exit 0) = (roundX [0, 3, 4] (st_osmosisref1_eight_L0) (fin_osmosisref1_eight_L0) r).1 ∧ [(3, (.acc 0 0 1 s3.2.2.length true))] = (roundX [0, 3, 4] (st_osmosisref1_eight_L0) (fin_osmosisref1_eight_L0) r).2.1 ∧ [(some (.cells (F_B s3.2.2) false true))] = (roundX [0, 3, 4] (st_osmosisref1_eight_L0) (fin_osmosisref1_eight_L0) r).2.2))) := fun C => by kernel_rfl
  refine runS_of (fun _ _ h => by cases h) WB88_0_ok (Nat.le_of_ble_eq_true rfl) ((e _).mpr ?_)
  unfold osmosisref1_eight_L0_s at h
  refine ⟨fun hb => ?_, fun hb => ?_⟩
  · have h := cond_t hb h
    refine ⟨u8_w _, ?_⟩
    obtain ⟨q4, h⟩ := bget hx4 h
    refine ⟨wP_idxA R_B q4, ?_⟩
    refine ⟨wr_row (o := 0) R_B q4 rfl, ?_⟩
    try rw [show AV.list 1 s3.2.2.length (F_B (s3.2.2.set s3.2.1.toNat (u8w (Int.tmod s3.1 256)))) false = l_B (s3.2.2.set s3.2.1.toNat (u8w (Int.tmod s3.1 256))) from by simp only [l_B, List.length_set]]
    obtain rfl := Option.some.inj h
    exact ⟨rfl, by first | rfl | (simp only [roundX, zipKeep, fin_osmosisref1_eight_L0, st_osmosisref1_eight_L0, List.length_set, List.length_append, List.length_replicate, List.length_cons, List.length_nil, Nat.add_zero, Nat.zero_add]; done) | simp [roundX, zipKeep, fin_osmosisref1_eight_L0, st_osmosisref1_eight_L0], by first | rfl | (simp only [roundX, zipKeep, fin_osmosisref1_eight_L0, st_osmosisref1_eight_L0, List.length_set, List.length_append, List.length_replicate, List.length_cons, List.length_nil, Nat.add_zero, Nat.zero_add]; done) | simp [roundX, zipKeep, fin_osmosisref1_eight_L0, st_osmosisref1_eight_L0]⟩
  · have h := cond_f hb h
    obtain rfl := Option.some.inj h
    exact ⟨rfl, by first | rfl | (simp only [roundX, zipKeep, fin_osmosisref1_eight_L0, st_osmosisref1_eight_L0, List.length_set, List.length_append, List.length_replicate, List.length_cons, List.length_nil, Nat.add_zero, Nat.zero_add]; done) | simp [roundX, zipKeep, fin_osmosisref1_eight_L0, st_osmosisref1_eight_L0], by first | rfl | (simp only [roundX, zipKeep, fin_osmosisref1_eight_L0, st_osmosisref1_eight_L0, List.length_set, List.length_append, List.length_replicate, List.length_cons, List.length_nil, Nat.add_zero, Nat.zero_add]; done) | simp [roundX, zipKeep, fin_osmosisref1_eight_L0, st_osmosisref1_eight_L0]⟩
theorem s_osmosisref1_eight_L0 (d : Nat)  {s3 : Int × Int × List UInt8} {r : (List UInt8)} (h : osmosisref1_eight_L0 s3 = some r) : RunS (bloop (bexec (wcalls atab (d + 0)) KK 19 WB88_0) [0, 3, 4] KK) 0 [(0, (.int .u64 s3.1)), (3, (.acc 0 0 1 s3.2.2.length true)), (4, (.int .i64 s3.2.1))] [(some (.cells (F_B s3.2.2) false true))] (fin_osmosisref1_eight_L0 r).1 (fin_osmosisref1_eight_L0 r).2.1 (fin_osmosisref1_eight_L0 r).2.2 :=
  loop_of (st := st_osmosisref1_eight_L0) (fin := fin_osmosisref1_eight_L0) (step := osmosisref1_eight_L0_s) (fun e => by (intro h; cases h)) (fun s x h => b_osmosisref1_eight_L0 d h) KK s3 r h

def osmosisref1_eight (p_h : Int) : Option (List UInt8) :=
  gd (makeB 1 8) ((osmosisref1_eight_L0 (p_h, 7, (List.replicate 8 ((0 : UInt8) : UInt8)))).bind fun (x5 : (List UInt8)) => some x5)

theorem s_osmosisref1_eight (d : Nat) {p_h : Int} {r : List UInt8} (h : osmosisref1_eight p_h = some r) : Spec (wcalls atab (d + 1)) 88 [(.int .u64 p_h)] [] (l_B r) [] := by
  obtain ⟨x5, hx5⟩ : ∃ x : (List UInt8), x = (osmosisref1_eight_L0 (p_h, 7, (List.replicate 8 ((0 : UInt8) : UInt8)))).getD default := ⟨_, rfl⟩
  have e : ∀ C : ACalls, wBody C (fun _ => none) KK WF88 [(.int .u64 p_h)] [] (.ap 5 8 (F_B (List.replicate 8 ((0 : UInt8) : UInt8))) (.lp [none, none, none] [] [] (.exit 0) [(3, (.acc 0 0 1 x5.length true))] [(some (.cells (F_B x5) false true))] (.fin (some false) [] none))) (l_B r) [] = (1 = 1 ∧ 1 ≤ 19 ∧ (wMk (.int .i64 8) (.int .i64 8) 8 1 ∧ (reps 8 [(.int .u8 0)] = F_B (List.replicate 8 ((0 : UInt8) : UInt8)) ∧ (RunS (bloop (bexec C KK 19 WB88_0) [0, 3, 4] KK) 0 [(0, (.int .u64 p_h)), (3, (.acc 0 0 1 8 true)), (4, (.int .i64 7))] [(some (.cells (F_B (List.replicate 8 ((0 : UInt8) : UInt8))) false true))] (.exit 0) [(3, (.acc 0 0 1 x5.length true))] [(some (.cells (F_B x5) false true))] ∧ (@Eq AV (l_B x5) (l_B r) ∧ @Eq WH [] []))))) := fun C => by kernel_rfl
  refine spec_of (fun _ _ h => by cases h) rfl atab_88 WF88_ok ((e _).mpr ⟨rfl, by decide, ?_⟩)
  unfold osmosisref1_eight at h
  obtain ⟨q1, h⟩ := gd_some h
  refine ⟨wMk_of (n := 8) q1, ?_⟩
  refine ⟨reps_row (x := ((0 : UInt8) : UInt8)) R_B rfl _, ?_⟩
  obtain ⟨q5, h⟩ := bget hx5 h
  refine ⟨s_osmosisref1_eight_L0 (d + 0) q5, ?_⟩
  obtain rfl := Option.some.inj h
  exact ⟨by wleaf, by wleaf⟩

/- osmosis/osmosisref1.Put -/
def st_osmosisref1_Put_3_L0 (l : List Int) (s9 : Int × List UInt8) (s13 : Int × List UInt8) : List AV × WH := ([(l_I l), (.acc 0 0 1 s13.2.length true), (.int .i64 s9.1), (.int .i64 s13.1)], [(some (.cells (F_B s13.2) false true))])
def fin_osmosisref1_Put_3_L0 (l : List Int) (s9 : Int × List UInt8) : (Int × List UInt8) → Ex × Fast × WH := fun e => ((.exit 2), [(1, (l_I l)), (5, (.acc 0 0 1 e.2.length true)), (6, (.int .i64 s9.1)), (7, (.int .i64 e.1))], [(some (.cells (F_B e.2) false true))])
def osmosisref1_Put_3_L0_s (l : List Int) (s9 : Int × List UInt8) (s13 : Int × List UInt8) : Option ((Int × List UInt8) ⊕ ((Int × List UInt8))) :=
  cond (decide (s13.1 ≥ 128)) (gd (fitsB 1 (s13.2 ++ [(u8w (IntKind.i64.wrap (128 + (Int.tmod s13.1 128))))]).length) (some (.inl ((IntKind.i64.wrap (Int.tdiv s13.1 128)), (s13.2 ++ [(u8w (IntKind.i64.wrap (128 + (Int.tmod s13.1 128))))]))))) (some (.inr (s13.1, s13.2)))
def osmosisref1_Put_3_L0 (l : List Int) (s9 : Int × List UInt8) (s13 : Int × List UInt8) : Option ((Int × List UInt8)) := loopX (osmosisref1_Put_3_L0_s l s9) KK s13
theorem b_osmosisref1_Put_3_L0 (d : Nat) {l : List Int} {s9 : Int × List UInt8} {s13 : Int × List UInt8} {r : (Int × List UInt8) ⊕ ((Int × List UInt8))} (h : osmosisref1_Put_3_L0_s l s9 s13 = some r) : RunS (bexec (wcalls atab (d + 0)) KK 41 WB87_1) 0 [(1, (l_I l)), (5, (.acc 0 0 1 s13.2.length true)), (6, (.int .i64 s9.1)), (7, (.int .i64 s13.1))] [(some (.cells (F_B s13.2) false true))] (roundX [1, 5, 6, 7] (st_osmosisref1_Put_3_L0 l s9) (fin_osmosisref1_Put_3_L0 l s9) r).1 (roundX [1, 5, 6, 7] (st_osmosisref1_Put_3_L0 l s9) (fin_osmosisref1_Put_3_L0 l s9) r).2.1 (roundX [1, 5, 6, 7] (st_osmosisref1_Put_3_L0 l s9) (fin_osmosisref1_Put_3_L0 l s9) r).2.2 := by
  have e : ∀ C : ACalls, wCode C (fun _ => none) KK 41 0 WB87_1 [(1, (l_I l)), (5, (.acc 0 0 1 s13.2.length true)), (6, (.int .i64 s9.1)), (7, (.int .i64 s13.1))] [(some (.cells (F_B s13.2) false true))] (.br 25 (.v 30 (.int .u8 ((u8w (IntKind.i64.wrap (128 + (Int.tmod s13.1 128)))).toNat : Int)) (.ap 32 (s13.2 ++ [(u8w (IntKind.i64.wrap (128 + (Int.tmod s13.1 128))))]).length (F_B (s13.2 ++ [(u8w (IntKind.i64.wrap (128 + (Int.tmod s13.1 128))))])) (.en [1, 5, 6, 7] [none, none, none, none] [] []))) (.en [1, 5, 6, 7] [none, none, none, none] [] [])) (roundX [1, 5, 6, 7] (st_osmosisref1_Put_3_L0 l s9) (fin_osmosisref1_Put_3_L0 l s9) r) = (((decide (s13.1 ≥ 128)) = true → (@Eq (Option AV) (some (.int .u8 (IntKind.u8.wrap (IntKind.i64.wrap (128 + (Int.tmod s13.1 128)))))) (some (.int .u8 ((u8w (IntKind.i64.wrap (128 + (Int.tmod s13.1 128)))).toNat : Int))) ∧ (s13.2.length + 1 = (s13.2 ++ [(u8w (IntKind.i64.wrap (128 + (Int.tmod s13.1 128))))]).length ∧ (F_B s13.2 ++ F_B ([(u8w (IntKind.i64.wrap (128 + (Int.tmod s13.1 128))))]) = F_B (s13.2 ++ [(u8w (IntKind.i64.wrap (128 + (Int.tmod s13.1 128))))]) ∧ (fitsB 1 (s13.2 ++ [(u8w (IntKind.i64.wrap (128 + (Int.tmod s13.1 128))))]).length = true ∧ (.normal = (roundX [1, 5, 6, 7] (st_osmosisref1_Put_3_L0 l s9) (fin_osmosisref1_Put_3_L0 l s9) r).1 ∧ [(1, (l_I l)), (5, (.acc 0 0 1 ((s13.2 ++ [(u8w (IntKind.i64.wrap (128 + (Int.tmod s13.1 128))))]).length) true)), (6, (.int .i64 s9.1)), (7, (.int .i64 (IntKind.i64.wrap (Int.tdiv s13.1 128))))] = (roundX [1, 5, 6, 7] (st_osmosisref1_Put_3_L0 l s9) (fin_osmosisref1_Put_3_L0 l s9) r).2.1 ∧ [(some (.cells (F_B (s13.2 ++ [(u8w (IntKind.i64.wrap (128 + (Int.tmod s13.1 128))))])) false true))] = (roundX [1, 5, 6, 7] (st_osmosisref1_Put_3_L0 l s9) (fin_osmosisref1_Put_3_L0 l s9) r).2.2)))))) ∧ ((decide (s13.1 ≥ 128)) = false → ((.exit 2) = (roundX [1, 5, 6, 7] (st_osmosisref1_Put_3_L0 l s9) (fin_osmosisref1_Put_3_L0 l s9) r).1 ∧ [(1, (l_I l)), (5, (.acc 0 0 1 s13.2.length true)), (6, (.int .i64 s9.1)), (7, (.int .i64 s13.1))] = (roundX [1, 5, 6, 7] (st_osmosisref1_Put_3_L0 l s9) (fin_osmosisref1_Put_3_L0 l s9) r).2.1 ∧ [(some (.cells (F_B s13.2) false true))] = (roundX [1, 5, 6, 7] (st_osmosisref1_Put_3_L0 l s9) (fin_osmosisref1_Put_3_L0 l s9) r).2.2))) := fun C => by kernel_rfl
  refine runS_of (fun _ _ h => by cases h) WB87_1_ok (Nat.le_of_ble_eq_true rfl) ((e _).mpr ?_)
  unfold osmosisref1_Put_3_L0_s at h
  refine ⟨fun hb => ?_, fun hb => ?_⟩
  · have h := cond_t hb h
    refine ⟨u8_w _, ?_⟩
    obtain ⟨q14, h⟩ := gd_some h
    refine ⟨by simp, ?_⟩
    refine ⟨(Row.app R_B _ _).symm, ?_⟩
    refine ⟨q14, ?_⟩
    obtain rfl := Option.some.inj h
    exact ⟨rfl, by first | rfl | (simp only [roundX, zipKeep, fin_osmosisref1_Put_3_L0, st_osmosisref1_Put_3_L0, List.length_set, List.length_append, List.length_replicate, List.length_cons, List.length_nil, Nat.add_zero, Nat.zero_add]; done) | simp [roundX, zipKeep, fin_osmosisref1_Put_3_L0, st_osmosisref1_Put_3_L0], by first | rfl | (simp only [roundX, zipKeep, fin_osmosisref1_Put_3_L0, st_osmosisref1_Put_3_L0, List.length_set, List.length_append, List.length_replicate, List.length_cons, List.length_nil, Nat.add_zero, Nat.zero_add]; done) | simp [roundX, zipKeep, fin_osmosisref1_Put_3_L0, st_osmosisref1_Put_3_L0]⟩
  · have h := cond_f hb h
    obtain rfl := Option.some.inj h
    exact ⟨rfl, by first | rfl | (simp only [roundX, zipKeep, fin_osmosisref1_Put_3_L0, st_osmosisref1_Put_3_L0, List.length_set, List.length_append, List.length_replicate, List.length_cons, List.length_nil, Nat.add_zero, Nat.zero_add]; done) | simp [roundX, zipKeep, fin_osmosisref1_Put_3_L0, st_osmosisref1_Put_3_L0], by first | rfl | (simp only [roundX, zipKeep, fin_osmosisref1_Put_3_L0, st_osmosisref1_Put_3_L0, List.length_set, List.length_append, List.length_replicate, List.length_cons, List.length_nil, Nat.add_zero, Nat.zero_add]; done) | simp [roundX, zipKeep, fin_osmosisref1_Put_3_L0, st_osmosisref1_Put_3_L0]⟩
theorem s_osmosisref1_Put_3_L0 (d : Nat) {l : List Int} {s9 : Int × List UInt8} {s13 : Int × List UInt8} {r : (Int × List UInt8)} (h : osmosisref1_Put_3_L0 l s9 s13 = some r) : RunS (bloop (bexec (wcalls atab (d + 0)) KK 41 WB87_1) [1, 5, 6, 7] KK) 0 [(1, (l_I l)), (5, (.acc 0 0 1 s13.2.length true)), (6, (.int .i64 s9.1)), (7, (.int .i64 s13.1))] [(some (.cells (F_B s13.2) false true))] (fin_osmosisref1_Put_3_L0 l s9 r).1 (fin_osmosisref1_Put_3_L0 l s9 r).2.1 (fin_osmosisref1_Put_3_L0 l s9 r).2.2 :=
  loop_of (st := st_osmosisref1_Put_3_L0 l s9) (fin := fin_osmosisref1_Put_3_L0 l s9) (step := osmosisref1_Put_3_L0_s l s9) (fun e => by (intro h; cases h)) (fun s x h => b_osmosisref1_Put_3_L0 d h) KK s13 r h

def st_osmosisref1_Put_3_L1 (l : List Int) (s9 : Int × List UInt8) : List AV × WH := ([(l_I l), (.acc 0 0 1 s9.2.length true), (.int .i64 s9.1)], [(some (.cells (F_B s9.2) false true))])
def fin_osmosisref1_Put_3_L1 (l : List Int) : Unit ⊕ (List UInt8) → Ex × Fast × WH := fun
  | .inl e => (.ret, [(4, (.slice none 1 0 0 true))], [])
  | .inr e => ((.exit 0), [(5, (.acc 0 0 1 e.length true))], [(some (.cells (F_B e) false true))])
def osmosisref1_Put_3_L1_s (l : List Int) (s9 : Int × List UInt8) : Option ((Int × List UInt8) ⊕ (Unit ⊕ (List UInt8))) :=
  cond (decide (s9.1 < (l.length : Int))) ((getI l s9.1).bind fun (x10 : Int) => (osmosisref1_May x10).bind fun (x11 : Bool) => cond (!x11) (some (.inr (.inl ()))) ((osmosisref1_Put_3_L0 l s9 (x10, s9.2)).bind fun (x15 : (Int × List UInt8)) => gd (fitsB 1 (x15.2 ++ [(u8w x15.1)]).length) (some (.inl ((IntKind.i64.wrap (s9.1 + 1)), (x15.2 ++ [(u8w x15.1)])))))) (some (.inr (.inr s9.2)))
def osmosisref1_Put_3_L1 (l : List Int) (s9 : Int × List UInt8) : Option (Unit ⊕ (List UInt8)) := loopX (osmosisref1_Put_3_L1_s l) KK s9
theorem b_osmosisref1_Put_3_L1 (d : Nat) {l : List Int} {s9 : Int × List UInt8} {r : (Int × List UInt8) ⊕ (Unit ⊕ (List UInt8))} (h : osmosisref1_Put_3_L1_s l s9 = some r) : RunS (bexec (wcalls atab (d + 1)) KK 41 WB87_0) 0 [(1, (l_I l)), (5, (.acc 0 0 1 s9.2.length true)), (6, (.int .i64 s9.1))] [(some (.cells (F_B s9.2) false true))] (roundX [1, 5, 6] (st_osmosisref1_Put_3_L1 l) (fin_osmosisref1_Put_3_L1 l) r).1 (roundX [1, 5, 6] (st_osmosisref1_Put_3_L1 l) (fin_osmosisref1_Put_3_L1 l) r).2.1 (roundX [1, 5, 6] (st_osmosisref1_Put_3_L1 l) (fin_osmosisref1_Put_3_L1 l) r).2.2 := by
  obtain ⟨x10, hx10⟩ : ∃ x : Int, x = (getI l s9.1).getD default := ⟨_, rfl⟩
  obtain ⟨x11, hx11⟩ : ∃ x : Bool, x = (osmosisref1_May x10).getD default := ⟨_, rfl⟩
  obtain ⟨x15, hx15⟩ : ∃ x : (Int × List UInt8), x = (osmosisref1_Put_3_L0 l s9 (x10, s9.2)).getD default := ⟨_, rfl⟩
  have e : ∀ C : ACalls, wCode C (fun _ => none) KK 41 0 WB87_0 [(1, (l_I l)), (5, (.acc 0 0 1 s9.2.length true)), (6, (.int .i64 s9.1))] [(some (.cells (F_B s9.2) false true))] (.br 14 (.v 19 (.elem ([(.int .i64 x10)] ++ F_I (l.drop (s9.1.toNat + 1)))) (.cb [] [] (.bool x11) (.br 23 (.en [4] [none] [] []) (.lp [none, none, none, none] [] [] (.exit 2) [(1, (l_I l)), (5, (.acc 0 0 1 x15.2.length true)), (6, (.int .i64 s9.1)), (7, (.int .i64 x15.1))] [(some (.cells (F_B x15.2) false true))] (.v 37 (.int .u8 ((u8w x15.1).toNat : Int)) (.ap 39 (x15.2 ++ [(u8w x15.1)]).length (F_B (x15.2 ++ [(u8w x15.1)])) (.en [1, 5, 6] [none, none, none] [] []))))))) (.en [5] [none] [] [])) (roundX [1, 5, 6] (st_osmosisref1_Put_3_L1 l) (fin_osmosisref1_Put_3_L1 l) r) = (((decide (s9.1 < (l.length : Int))) = true → (wP (.idxSlice 1 (.c (l_I l)) (.c (.int .i64 s9.1))) = some (.elem ([(.int .i64 x10)] ++ F_I (l.drop (s9.1.toNat + 1)))) ∧ (Spec C 121 [(.int .i64 x10)] [] (.bool x11) [] ∧ (((!x11) = true → (.ret = (roundX [1, 5, 6] (st_osmosisref1_Put_3_L1 l) (fin_osmosisref1_Put_3_L1 l) r).1 ∧ [(4, (.slice none 1 0 0 true))] = (roundX [1, 5, 6] (st_osmosisref1_Put_3_L1 l) (fin_osmosisref1_Put_3_L1 l) r).2.1 ∧ [] = (roundX [1, 5, 6] (st_osmosisref1_Put_3_L1 l) (fin_osmosisref1_Put_3_L1 l) r).2.2)) ∧ ((!x11) = false → (RunS (bloop (bexec C KK 41 WB87_1) [1, 5, 6, 7] KK) 0 [(1, (l_I l)), (5, (.acc 0 0 1 s9.2.length true)), (6, (.int .i64 s9.1)), (7, (.int .i64 x10))] [(some (.cells (F_B s9.2) false true))] (.exit 2) [(1, (l_I l)), (5, (.acc 0 0 1 x15.2.length true)), (6, (.int .i64 s9.1)), (7, (.int .i64 x15.1))] [(some (.cells (F_B x15.2) false true))] ∧ (@Eq (Option AV) (some (.int .u8 (IntKind.u8.wrap x15.1))) (some (.int .u8 ((u8w x15.1).toNat : Int))) ∧ (x15.2.length + 1 = (x15.2 ++ [(u8w x15.1)]).length ∧ (F_B x15.2 ++ F_B ([(u8w x15.1)]) = F_B (x15.2 ++ [(u8w x15.1)]) ∧ (fitsB 1 (x15.2 ++ [(u8w x15.1)]).length = true ∧ (.normal = (roundX [1, 5, 6] (st_osmosisref1_Put_3_L1 l) (fin_osmosisref1_Put_3_L1 l) r).1 ∧ [(1, (l_I l)), (5, (.acc 0 0 1 ((x15.2 ++ [(u8w x15.1)]).length) true)), (6, (.int .i64 (IntKind.i64.wrap (s9.1 + 1))))] = (roundX [1, 5, 6] (st_osmosisref1_Put_3_L1 l) (fin_osmosisref1_Put_3_L1 l) r).2.1 ∧ [(some (.cells (F_B (x15.2 ++ [(u8w x15.1)])) false true))] = (roundX [1, 5, 6] (st_osmosisref1_Put_3_L1 l) (fin_osmosisref1_Put_3_L1 l) r).2.2))))))))))) ∧ ((decide (s9.1 < (l.length : Int))) = false → ((.exit 0) = (roundX [1, 5, 6] (st_osmosisref1_Put_3_L1 l) (fin_osmosisref1_Put_3_L1 l) r).1 ∧ [(5, (.acc 0 0 1 s9.2.length true))] = (roundX [1, 5, 6] (st_osmosisref1_Put_3_L1 l) (fin_osmosisref1_Put_3_L1 l) r).2.1 ∧ [(some (.cells (F_B s9.2) false true))] = (roundX [1, 5, 6] (st_osmosisref1_Put_3_L1 l) (fin_osmosisref1_Put_3_L1 l) r).2.2))) := fun C => by kernel_rfl
  refine runS_of (fun _ _ h => by cases h) WB87_0_ok (Nat.le_of_ble_eq_true rfl) ((e _).mpr ?_)
  unfold osmosisref1_Put_3_L1_s at h
  refine ⟨fun hb => ?_, fun hb => ?_⟩
  · have h := cond_t hb h
    obtain ⟨q10, h⟩ := bget hx10 h
    refine ⟨wP_idx R_I q10, ?_⟩
    obtain ⟨q11, h⟩ := bget hx11 h
    refine ⟨s_osmosisref1_May (d + 0) q11, ?_⟩
    refine ⟨fun hb => ?_, fun hb => ?_⟩
    · have h := cond_t hb h
      obtain rfl := Option.some.inj h
      exact ⟨rfl, by first | rfl | (simp only [roundX, zipKeep, fin_osmosisref1_Put_3_L1, st_osmosisref1_Put_3_L1, List.length_set, List.length_append, List.length_replicate, List.length_cons, List.length_nil, Nat.add_zero, Nat.zero_add]; done) | simp [roundX, zipKeep, fin_osmosisref1_Put_3_L1, st_osmosisref1_Put_3_L1], by first | rfl | (simp only [roundX, zipKeep, fin_osmosisref1_Put_3_L1, st_osmosisref1_Put_3_L1, List.length_set, List.length_append, List.length_replicate, List.length_cons, List.length_nil, Nat.add_zero, Nat.zero_add]; done) | simp [roundX, zipKeep, fin_osmosisref1_Put_3_L1, st_osmosisref1_Put_3_L1]⟩
    · have h := cond_f hb h
      obtain ⟨q15, h⟩ := bget hx15 h
      refine ⟨s_osmosisref1_Put_3_L0 (d + 1) q15, ?_⟩
      refine ⟨u8_w _, ?_⟩
      obtain ⟨q16, h⟩ := gd_some h
      refine ⟨by simp, ?_⟩
      refine ⟨(Row.app R_B _ _).symm, ?_⟩
      refine ⟨q16, ?_⟩
      obtain rfl := Option.some.inj h
      exact ⟨rfl, by first | rfl | (simp only [roundX, zipKeep, fin_osmosisref1_Put_3_L1, st_osmosisref1_Put_3_L1, List.length_set, List.length_append, List.length_replicate, List.length_cons, List.length_nil, Nat.add_zero, Nat.zero_add]; done) | simp [roundX, zipKeep, fin_osmosisref1_Put_3_L1, st_osmosisref1_Put_3_L1], by first | rfl | (simp only [roundX, zipKeep, fin_osmosisref1_Put_3_L1, st_osmosisref1_Put_3_L1, List.length_set, List.length_append, List.length_replicate, List.length_cons, List.length_nil, Nat.add_zero, Nat.zero_add]; done) | simp [roundX, zipKeep, fin_osmosisref1_Put_3_L1, st_osmosisref1_Put_3_L1]⟩
  · have h := cond_f hb h
    obtain rfl := Option.some.inj h
    exact ⟨rfl, by first | rfl | (simp only [roundX, zipKeep, fin_osmosisref1_Put_3_L1, st_osmosisref1_Put_3_L1, List.length_set, List.length_append, List.length_replicate, List.length_cons, List.length_nil, Nat.add_zero, Nat.zero_add]; done) | simp [roundX, zipKeep, fin_osmosisref1_Put_3_L1, st_osmosisref1_Put_3_L1], by first | rfl | (simp only [roundX, zipKeep, fin_osmosisref1_Put_3_L1, st_osmosisref1_Put_3_L1, List.length_set, List.length_append, List.length_replicate, List.length_cons, List.length_nil, Nat.add_zero, Nat.zero_add]; done) | simp [roundX, zipKeep, fin_osmosisref1_Put_3_L1, st_osmosisref1_Put_3_L1]⟩
theorem s_osmosisref1_Put_3_L1 (d : Nat) {l : List Int} {s9 : Int × List UInt8} {r : Unit ⊕ (List UInt8)} (h : osmosisref1_Put_3_L1 l s9 = some r) : RunS (bloop (bexec (wcalls atab (d + 1)) KK 41 WB87_0) [1, 5, 6] KK) 0 [(1, (l_I l)), (5, (.acc 0 0 1 s9.2.length true)), (6, (.int .i64 s9.1))] [(some (.cells (F_B s9.2) false true))] (fin_osmosisref1_Put_3_L1 l r).1 (fin_osmosisref1_Put_3_L1 l r).2.1 (fin_osmosisref1_Put_3_L1 l r).2.2 :=
  loop_of (st := st_osmosisref1_Put_3_L1 l) (fin := fin_osmosisref1_Put_3_L1 l) (step := osmosisref1_Put_3_L1_s l) (fun e => by rcases e with e | e <;> (intro h; cases h)) (fun s x h => b_osmosisref1_Put_3_L1 d h) KK s9 r h

def osmosisref1_Put_3 (p_b : List UInt8) (l : List Int) : Option (List UInt8) :=
  gd (fitsB 1 p_b.length) ((osmosisref1_Put_3_L1 l (0, p_b)).bind fun (x17 : Unit ⊕ (List UInt8)) => cond (isL x17) (some []) (some (getR x17)))

theorem s_osmosisref1_Put_3 (d : Nat) {p_b : List UInt8} {l : List Int} {r : List UInt8} (h : osmosisref1_Put_3 p_b l = some r) : Spec (wcalls atab (d + 2)) 87 [(l_B p_b), (l_I l)] [] (.acc 0 0 1 r.length true) [(some (.cells (F_B r) false true))] := by
  obtain ⟨x17, hx17⟩ : ∃ x : Unit ⊕ (List UInt8), x = (osmosisref1_Put_3_L1 l (0, p_b)).getD default := ⟨_, rfl⟩
  have e : ∀ C : ACalls, wBody C (fun _ => none) KK WF87 [(l_B p_b), (l_I l)] [] (.ap 10 p_b.length (F_B p_b) (.ite (isL x17) (.lp [none, none, none] [] [] .ret [(4, (.slice none 1 0 0 true))] [] (.fin (some true) [] none)) (.lp [none, none, none] [] [] (.exit 0) [(5, (.acc 0 0 1 ((getR x17).length) true))] [(some (.cells (F_B (getR x17)) false true))] (.fin (some true) [] none)))) (.acc 0 0 1 r.length true) [(some (.cells (F_B r) false true))] = (2 = 2 ∧ 2 ≤ 41 ∧ (0 + p_b.length = p_b.length ∧ (F_B [] ++ F_B p_b = F_B p_b ∧ (fitsB 1 p_b.length = true ∧ (((isL x17) = true → (RunS (bloop (bexec C KK 41 WB87_0) [1, 5, 6] KK) 0 [(1, (l_I l)), (5, (.acc 0 0 1 p_b.length true)), (6, (.int .i64 0))] [(some (.cells (F_B p_b) false true))] .ret [(4, (.slice none 1 0 0 true))] [] ∧ (@Eq AV (.acc 0 0 1 0 true) (.acc 0 0 1 r.length true) ∧ @Eq WH [(some (.cells (F_B []) false true))] [(some (.cells (F_B r) false true))]))) ∧ ((isL x17) = false → (RunS (bloop (bexec C KK 41 WB87_0) [1, 5, 6] KK) 0 [(1, (l_I l)), (5, (.acc 0 0 1 p_b.length true)), (6, (.int .i64 0))] [(some (.cells (F_B p_b) false true))] (.exit 0) [(5, (.acc 0 0 1 ((getR x17).length) true))] [(some (.cells (F_B (getR x17)) false true))] ∧ (@Eq AV (.acc 0 0 1 ((getR x17).length) true) (.acc 0 0 1 r.length true) ∧ @Eq WH [(some (.cells (F_B (getR x17)) false true))] [(some (.cells (F_B r) false true))])))))))) := fun C => by kernel_rfl
  refine spec_of (fun _ _ h => by cases h) rfl atab_87 WF87_ok ((e _).mpr ⟨rfl, by decide, ?_⟩)
  unfold osmosisref1_Put_3 at h
  obtain ⟨q1, h⟩ := gd_some h
  refine ⟨by simp, ?_⟩
  refine ⟨by first | rfl | simp [F_B], ?_⟩
  refine ⟨q1, ?_⟩
  obtain ⟨q17, h⟩ := bget hx17 h
  refine ⟨fun hb18 => ?_, fun hb18 => ?_⟩
  · have h := cond_t hb18 h
    refine ⟨by have h := s_osmosisref1_Put_3_L1 (d + 0) q17; rw [isL_t hb18] at h; exact h, ?_⟩
    obtain rfl := Option.some.inj h
    exact ⟨by wleaf, by wleaf⟩
  · have h := cond_f hb18 h
    refine ⟨by have h := s_osmosisref1_Put_3_L1 (d + 0) q17; rw [isL_f hb18] at h; exact h, ?_⟩
    obtain rfl := Option.some.inj h
    exact ⟨by wleaf, by wleaf⟩

/- osmosis/osmosisref1.Frame -/
def st_osmosisref1_Frame_L0 (l : List (List UInt8)) (s10 : Int × List UInt8) : List AV × WH := ([(l_LB l), (.acc 0 0 1 s10.2.length true), (.int .i64 s10.1)], [(some (.cells (F_B s10.2) false true))])
def fin_osmosisref1_Frame_L0 (l : List (List UInt8)) : (List UInt8) → Ex × Fast × WH := fun e => ((.exit 0), [(5, (.acc 0 0 1 e.length true))], [(some (.cells (F_B e) false true))])
def osmosisref1_Frame_L0_s (l : List (List UInt8)) (s10 : Int × List UInt8) : Option ((Int × List UInt8) ⊕ ((List UInt8))) :=
  cond (decide (s10.1 < (l.length : Int))) ((getI l s10.1).bind fun (x11 : List UInt8) => (osmosisref1_Put_3 s10.2 ([(x11.length : Int)])).bind fun (x12 : List UInt8) => (getI l s10.1).bind fun (x13 : List UInt8) => (osmosisref1_Sum [x13]).bind fun (x14 : Int) => (osmosisref1_eight x14).bind fun (x15 : List UInt8) => gd (fitsB 1 (x12 ++ x15).length) ((getI l s10.1).bind fun (x17 : List UInt8) => gd (fitsB 1 ((x12 ++ x15) ++ x17).length) (some (.inl ((IntKind.i64.wrap (s10.1 + 1)), ((x12 ++ x15) ++ x17)))))) (some (.inr s10.2))
def osmosisref1_Frame_L0 (l : List (List UInt8)) (s10 : Int × List UInt8) : Option ((List UInt8)) := loopX (osmosisref1_Frame_L0_s l) KK s10
theorem b_osmosisref1_Frame_L0 (d : Nat) {l : List (List UInt8)} {s10 : Int × List UInt8} {r : (Int × List UInt8) ⊕ ((List UInt8))} (h : osmosisref1_Frame_L0_s l s10 = some r) : RunS (bexec (wcalls atab (d + 2)) KK 41 WB27_0) 0 [(1, (l_LB l)), (5, (.acc 0 0 1 s10.2.length true)), (6, (.int .i64 s10.1))] [(some (.cells (F_B s10.2) false true))] (roundX [1, 5, 6] (st_osmosisref1_Frame_L0 l) (fin_osmosisref1_Frame_L0 l) r).1 (roundX [1, 5, 6] (st_osmosisref1_Frame_L0 l) (fin_osmosisref1_Frame_L0 l) r).2.1 (roundX [1, 5, 6] (st_osmosisref1_Frame_L0 l) (fin_osmosisref1_Frame_L0 l) r).2.2 := by
  obtain ⟨x11, hx11⟩ : ∃ x : List UInt8, x = (getI l s10.1).getD default := ⟨_, rfl⟩
  obtain ⟨x12, hx12⟩ : ∃ x : List UInt8, x = (osmosisref1_Put_3 s10.2 ([(x11.length : Int)])).getD default := ⟨_, rfl⟩
  obtain ⟨x13, hx13⟩ : ∃ x : List UInt8, x = (getI l s10.1).getD default := ⟨_, rfl⟩
  obtain ⟨x14, hx14⟩ : ∃ x : Int, x = (osmosisref1_Sum [x13]).getD default := ⟨_, rfl⟩
  obtain ⟨x15, hx15⟩ : ∃ x : List UInt8, x = (osmosisref1_eight x14).getD default := ⟨_, rfl⟩
  obtain ⟨x17, hx17⟩ : ∃ x : List UInt8, x = (getI l s10.1).getD default := ⟨_, rfl⟩
  have e : ∀ C : ACalls, wCode C (fun _ => none) KK 41 0 WB27_0 [(1, (l_LB l)), (5, (.acc 0 0 1 s10.2.length true)), (6, (.int .i64 s10.1))] [(some (.cells (F_B s10.2) false true))] (.br 13 (.v 19 (.elem ([(l_B x11)] ++ F_LB (l.drop (s10.1.toNat + 1)))) (.call [] (some false) [] (.acc 0 0 1 x12.length true) [(some (.cells (F_B x12) false true))] (.v 27 (.elem ([(l_B x13)] ++ F_LB (l.drop (s10.1.toNat + 1)))) (.v 29 (.str x13) (.cb [] [] (.int .u64 x14) (.call [] (some false) [] (l_B x15) [] (.ap 33 (x12 ++ x15).length (F_B (x12 ++ x15)) (.v 37 (.elem ([(l_B x17)] ++ F_LB (l.drop (s10.1.toNat + 1)))) (.ap 39 ((x12 ++ x15) ++ x17).length (F_B ((x12 ++ x15) ++ x17)) (.en [1, 5, 6] [none, none, none] [] [])))))))))) (.en [5] [none] [] [])) (roundX [1, 5, 6] (st_osmosisref1_Frame_L0 l) (fin_osmosisref1_Frame_L0 l) r) = (((decide (s10.1 < (l.length : Int))) = true → (wP (.idxSlice 1 (.c (l_LB l)) (.c (.int .i64 s10.1))) = some (.elem ([(l_B x11)] ++ F_LB (l.drop (s10.1.toNat + 1)))) ∧ (Spec C 87 [(l_B s10.2), (l_I ([(x11.length : Int)]))] [] (.acc 0 0 1 x12.length true) [(some (.cells (F_B x12) false true))] ∧ (0 ≤ 1 ∧ (wP (.idxSlice 1 (.c (l_LB l)) (.c (.int .i64 s10.1))) = some (.elem ([(l_B x13)] ++ F_LB (l.drop (s10.1.toNat + 1)))) ∧ ((toBytes (F_B x13)).map AV.str = some (.str x13) ∧ (Spec C 89 [(l_S [x13])] [] (.int .u64 x14) [] ∧ (Spec C 88 [(.int .u64 x14)] [] (l_B x15) [] ∧ (0 ≤ 0 ∧ (x12.length + x15.length = (x12 ++ x15).length ∧ (F_B x12 ++ F_B x15 = F_B (x12 ++ x15) ∧ (fitsB 1 (x12 ++ x15).length = true ∧ (wP (.idxSlice 1 (.c (l_LB l)) (.c (.int .i64 s10.1))) = some (.elem ([(l_B x17)] ++ F_LB (l.drop (s10.1.toNat + 1)))) ∧ ((x12 ++ x15).length + x17.length = ((x12 ++ x15) ++ x17).length ∧ (F_B (x12 ++ x15) ++ F_B x17 = F_B ((x12 ++ x15) ++ x17) ∧ (fitsB 1 ((x12 ++ x15) ++ x17).length = true ∧ (.normal = (roundX [1, 5, 6] (st_osmosisref1_Frame_L0 l) (fin_osmosisref1_Frame_L0 l) r).1 ∧ [(1, (l_LB l)), (5, (.acc 0 0 1 (((x12 ++ x15) ++ x17).length) true)), (6, (.int .i64 (IntKind.i64.wrap (s10.1 + 1))))] = (roundX [1, 5, 6] (st_osmosisref1_Frame_L0 l) (fin_osmosisref1_Frame_L0 l) r).2.1 ∧ [(some (.cells (F_B ((x12 ++ x15) ++ x17)) false true))] = (roundX [1, 5, 6] (st_osmosisref1_Frame_L0 l) (fin_osmosisref1_Frame_L0 l) r).2.2))))))))))))))))) ∧ ((decide (s10.1 < (l.length : Int))) = false → ((.exit 0) = (roundX [1, 5, 6] (st_osmosisref1_Frame_L0 l) (fin_osmosisref1_Frame_L0 l) r).1 ∧ [(5, (.acc 0 0 1 s10.2.length true))] = (roundX [1, 5, 6] (st_osmosisref1_Frame_L0 l) (fin_osmosisref1_Frame_L0 l) r).2.1 ∧ [(some (.cells (F_B s10.2) false true))] = (roundX [1, 5, 6] (st_osmosisref1_Frame_L0 l) (fin_osmosisref1_Frame_L0 l) r).2.2))) := fun C => by kernel_rfl
  refine runS_of (fun _ _ h => by cases h) WB27_0_ok (Nat.le_of_ble_eq_true rfl) ((e _).mpr ?_)
  unfold osmosisref1_Frame_L0_s at h
  refine ⟨fun hb => ?_, fun hb => ?_⟩
  · have h := cond_t hb h
    obtain ⟨q11, h⟩ := bget hx11 h
    refine ⟨wP_idx R_LB q11, ?_⟩
    obtain ⟨q12, h⟩ := bget hx12 h
    refine ⟨s_osmosisref1_Put_3 (d + 0) q12, ?_⟩
    refine ⟨by decide, ?_⟩
    obtain ⟨q13, h⟩ := bget hx13 h
    refine ⟨wP_idx R_LB q13, ?_⟩
    refine ⟨by rw [show F_B x13 = (x13).map byteC from rfl, toBytes_map]; rfl, ?_⟩
    obtain ⟨q14, h⟩ := bget hx14 h
    refine ⟨s_osmosisref1_Sum (d + 0) q14, ?_⟩
    obtain ⟨q15, h⟩ := bget hx15 h
    refine ⟨s_osmosisref1_eight (d + 1) q15, ?_⟩
    refine ⟨by decide, ?_⟩
    obtain ⟨q16, h⟩ := gd_some h
    refine ⟨app_len _ _, ?_⟩
    refine ⟨(Row.app R_B _ _).symm, ?_⟩
    refine ⟨q16, ?_⟩
    obtain ⟨q17, h⟩ := bget hx17 h
    refine ⟨wP_idx R_LB q17, ?_⟩
    obtain ⟨q18, h⟩ := gd_some h
    refine ⟨app_len _ _, ?_⟩
    refine ⟨(Row.app R_B _ _).symm, ?_⟩
    refine ⟨q18, ?_⟩
    obtain rfl := Option.some.inj h
    exact ⟨rfl, by first | rfl | (simp only [roundX, zipKeep, fin_osmosisref1_Frame_L0, st_osmosisref1_Frame_L0, List.length_set, List.length_append, List.length_replicate, List.length_cons, List.length_nil, Nat.add_zero, Nat.zero_add]; done) | simp [roundX, zipKeep, fin_osmosisref1_Frame_L0, st_osmosisref1_Frame_L0], by first | rfl | (simp only [roundX, zipKeep, fin_osmosisref1_Frame_L0, st_osmosisref1_Frame_L0, List.length_set, List.length_append, List.length_replicate, List.length_cons, List.length_nil, Nat.add_zero, Nat.zero_add]; done) | simp [roundX, zipKeep, fin_osmosisref1_Frame_L0, st_osmosisref1_Frame_L0]⟩
  · have h := cond_f hb h
    obtain rfl := Option.some.inj h
    exact ⟨rfl, by first | rfl | (simp only [roundX, zipKeep, fin_osmosisref1_Frame_L0, st_osmosisref1_Frame_L0, List.length_set, List.length_append, List.length_replicate, List.length_cons, List.length_nil, Nat.add_zero, Nat.zero_add]; done) | simp [roundX, zipKeep, fin_osmosisref1_Frame_L0, st_osmosisref1_Frame_L0], by first | rfl | (simp only [roundX, zipKeep, fin_osmosisref1_Frame_L0, st_osmosisref1_Frame_L0, List.length_set, List.length_append, List.length_replicate, List.length_cons, List.length_nil, Nat.add_zero, Nat.zero_add]; done) | simp [roundX, zipKeep, fin_osmosisref1_Frame_L0, st_osmosisref1_Frame_L0]⟩
theorem s_osmosisref1_Frame_L0 (d : Nat) {l : List (List UInt8)} {s10 : Int × List UInt8} {r : (List UInt8)} (h : osmosisref1_Frame_L0 l s10 = some r) : RunS (bloop (bexec (wcalls atab (d + 2)) KK 41 WB27_0) [1, 5, 6] KK) 0 [(1, (l_LB l)), (5, (.acc 0 0 1 s10.2.length true)), (6, (.int .i64 s10.1))] [(some (.cells (F_B s10.2) false true))] (fin_osmosisref1_Frame_L0 l r).1 (fin_osmosisref1_Frame_L0 l r).2.1 (fin_osmosisref1_Frame_L0 l r).2.2 :=
  loop_of (st := st_osmosisref1_Frame_L0 l) (fin := fin_osmosisref1_Frame_L0 l) (step := osmosisref1_Frame_L0_s l) (fun e => by (intro h; cases h)) (fun s x h => b_osmosisref1_Frame_L0 d h) KK s10 r h

def osmosisref1_Frame (p_b : List UInt8) (l : List (List UInt8)) : Option (List UInt8) :=
  gd (fitsB 1 p_b.length) ((osmosisref1_Frame_L0 l (0, p_b)).bind fun (x19 : (List UInt8)) => some x19)

theorem s_osmosisref1_Frame (d : Nat) {p_b : List UInt8} {l : List (List UInt8)} {r : List UInt8} (h : osmosisref1_Frame p_b l = some r) : Spec (wcalls atab (d + 3)) 27 [(l_B p_b), (l_LB l)] [] (l_B r) [] := by
  obtain ⟨x19, hx19⟩ : ∃ x : (List UInt8), x = (osmosisref1_Frame_L0 l (0, p_b)).getD default := ⟨_, rfl⟩
  have e : ∀ C : ACalls, wBody C (fun _ => none) KK WF27 [(l_B p_b), (l_LB l)] [] (.ap 9 p_b.length (F_B p_b) (.lp [none, none, none] [] [] (.exit 0) [(5, (.acc 0 0 1 x19.length true))] [(some (.cells (F_B x19) false true))] (.fin (some false) [] none))) (l_B r) [] = (2 = 2 ∧ 2 ≤ 41 ∧ (0 + p_b.length = p_b.length ∧ (F_B [] ++ F_B p_b = F_B p_b ∧ (fitsB 1 p_b.length = true ∧ (RunS (bloop (bexec C KK 41 WB27_0) [1, 5, 6] KK) 0 [(1, (l_LB l)), (5, (.acc 0 0 1 p_b.length true)), (6, (.int .i64 0))] [(some (.cells (F_B p_b) false true))] (.exit 0) [(5, (.acc 0 0 1 x19.length true))] [(some (.cells (F_B x19) false true))] ∧ (@Eq AV (l_B x19) (l_B r) ∧ @Eq WH [] [])))))) := fun C => by kernel_rfl
  refine spec_of (fun _ _ h => by cases h) rfl atab_27 WF27_ok ((e _).mpr ⟨rfl, by decide, ?_⟩)
  unfold osmosisref1_Frame at h
  obtain ⟨q1, h⟩ := gd_some h
  refine ⟨by simp, ?_⟩
  refine ⟨by first | rfl | simp [F_B], ?_⟩
  refine ⟨q1, ?_⟩
  obtain ⟨q19, h⟩ := bget hx19 h
  refine ⟨s_osmosisref1_Frame_L0 (d + 0) q19, ?_⟩
  obtain rfl := Option.some.inj h
  exact ⟨by wleaf, by wleaf⟩

/- osmosis/osmosishand.Pick -/
def osmosishand_Pick (n : Int) (m : Int) : Option (Int) :=
  (remI .i64 n m).bind fun (x1 : Int) => cond (decide (x1 < 0)) (some (IntKind.i64.wrap (x1 + m))) (some x1)

theorem s_osmosishand_Pick (d : Nat) {n : Int} {m : Int} {r : Int} (h : osmosishand_Pick n m = some r) : Spec (wcalls atab (d + 1)) 28 [(.int .i64 n), (.int .i64 m)] [] (.int .i64 r) [] := by
  obtain ⟨x1, hx1⟩ : ∃ x : Int, x = (remI .i64 n m).getD default := ⟨_, rfl⟩
  have e : ∀ C : ACalls, wBody C (fun _ => none) KK WF28 [(.int .i64 n), (.int .i64 m)] [] (.v 7 (.int .i64 x1) (.br 9 (.fin (some false) [] none) (.fin (some false) [] none))) (.int .i64 r) [] = (2 = 2 ∧ 2 ≤ 14 ∧ (aInts .rem .i64 n m = some (.int .i64 x1) ∧ (((decide (x1 < 0)) = true → (@Eq AV (.int .i64 (IntKind.i64.wrap (x1 + m))) (.int .i64 r) ∧ @Eq WH [] [])) ∧ ((decide (x1 < 0)) = false → (@Eq AV (.int .i64 x1) (.int .i64 r) ∧ @Eq WH [] []))))) := fun C => by kernel_rfl
  refine spec_of (fun _ _ h => by cases h) rfl atab_28 WF28_ok ((e _).mpr ⟨rfl, by decide, ?_⟩)
  unfold osmosishand_Pick at h
  obtain ⟨q1, h⟩ := bget hx1 h
  refine ⟨wP_rem q1, ?_⟩
  refine ⟨fun hb => ?_, fun hb => ?_⟩
  · have h := cond_t hb h
    obtain rfl := Option.some.inj h
    exact ⟨by wleaf, by wleaf⟩
  · have h := cond_f hb h
    obtain rfl := Option.some.inj h
    exact ⟨by wleaf, by wleaf⟩

end Go.Proofs.Ytachollgbplikaa
