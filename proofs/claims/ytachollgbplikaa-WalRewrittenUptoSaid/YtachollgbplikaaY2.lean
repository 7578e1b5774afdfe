/- Functions as Lean functions, part 2. -/
import Derived.Test.YtachollgbplikaaXt
import Derived.Test.YtachollgbplikaaXs
import Derived.Test.YtachollgbplikaaY1
set_option linter.all false
set_option maxRecDepth 100000
namespace Go.Proofs.Ytachollgbplikaa
/- slices.Equal[[]byte,byte] -/
def st_slices_Equal_byte_byte_L0 (a0 : List UInt8) (a1 : List UInt8) (s3 : Int) : List AV × WH := ([(l_B a0), (l_B a1), (.int .i64 (a0.length : Int)), (.int .i64 s3)], [])
def fin_slices_Equal_byte_byte_L0 (a0 : List UInt8) (a1 : List UInt8) : Unit ⊕ Unit → Ex × Fast × WH := fun
  | .inl e => (.ret, [(4, (.bool false))], [])
  | .inr e => ((.exit 0), [], [])
def slices_Equal_byte_byte_L0_s (a0 : List UInt8) (a1 : List UInt8) (s3 : Int) : Option ((Int) ⊕ (Unit ⊕ Unit)) :=
  cond (decide (s3 < (a0.length : Int))) ((getI a0 s3).bind fun (x4 : UInt8) => (getI a1 s3).bind fun (x5 : UInt8) => cond ((x4.toNat : Int) != (x5.toNat : Int)) (some (.inr (.inl ()))) (some (.inl (IntKind.i64.wrap (s3 + 1))))) (some (.inr (.inr ())))
def slices_Equal_byte_byte_L0 (a0 : List UInt8) (a1 : List UInt8) (s3 : Int) : Option (Unit ⊕ Unit) := loopX (slices_Equal_byte_byte_L0_s a0 a1) KK s3
theorem b_slices_Equal_byte_byte_L0 (d : Nat) {a0 : List UInt8} {a1 : List UInt8} {s3 : Int} {r : (Int) ⊕ (Unit ⊕ Unit)} (h : slices_Equal_byte_byte_L0_s a0 a1 s3 = some r) : RunS (bexec (wcalls atab (d + 0)) KK 26 WB120_0) 0 [(0, (l_B a0)), (1, (l_B a1)), (12, (.int .i64 (a0.length : Int))), (13, (.int .i64 s3))] [] (roundX [0, 1, 12, 13] (st_slices_Equal_byte_byte_L0 a0 a1) (fin_slices_Equal_byte_byte_L0 a0 a1) r).1 (roundX [0, 1, 12, 13] (st_slices_Equal_byte_byte_L0 a0 a1) (fin_slices_Equal_byte_byte_L0 a0 a1) r).2.1 (roundX [0, 1, 12, 13] (st_slices_Equal_byte_byte_L0 a0 a1) (fin_slices_Equal_byte_byte_L0 a0 a1) r).2.2 := by
  obtain ⟨x4, hx4⟩ : ∃ x : UInt8, x = (getI a0 s3).getD default := ⟨_, rfl⟩
  obtain ⟨x5, hx5⟩ : ∃ x : UInt8, x = (getI a1 s3).getD default := ⟨_, rfl⟩
  have e : ∀ C : ACalls, wCode C (fun _ => none) KK 26 0 WB120_0 [(0, (l_B a0)), (1, (l_B a1)), (12, (.int .i64 (a0.length : Int))), (13, (.int .i64 s3))] [] (.br 14 (.v 18 (.elem ([(byteC x4)] ++ F_B (a0.drop (s3.toNat + 1)))) (.v 22 (.elem ([(byteC x5)] ++ F_B (a1.drop (s3.toNat + 1)))) (.br 24 (.en [4] [none] [] []) (.en [0, 1, 12, 13] [none, none, none, none] [] [])))) (.en [] [] [] [])) (roundX [0, 1, 12, 13] (st_slices_Equal_byte_byte_L0 a0 a1) (fin_slices_Equal_byte_byte_L0 a0 a1) r) = (((decide (s3 < (a0.length : Int))) = true → (wP (.idxSlice 1 (.c (l_B a0)) (.c (.int .i64 s3))) = some (.elem ([(byteC x4)] ++ F_B (a0.drop (s3.toNat + 1)))) ∧ (wP (.idxSlice 1 (.c (l_B a1)) (.c (.int .i64 s3))) = some (.elem ([(byteC x5)] ++ F_B (a1.drop (s3.toNat + 1)))) ∧ ((((x4.toNat : Int) != (x5.toNat : Int)) = true → (.ret = (roundX [0, 1, 12, 13] (st_slices_Equal_byte_byte_L0 a0 a1) (fin_slices_Equal_byte_byte_L0 a0 a1) r).1 ∧ [(4, (.bool false))] = (roundX [0, 1, 12, 13] (st_slices_Equal_byte_byte_L0 a0 a1) (fin_slices_Equal_byte_byte_L0 a0 a1) r).2.1 ∧ [] = (roundX [0, 1, 12, 13] (st_slices_Equal_byte_byte_L0 a0 a1) (fin_slices_Equal_byte_byte_L0 a0 a1) r).2.2)) ∧ (((x4.toNat : Int) != (x5.toNat : Int)) = false → (.normal = (roundX [0, 1, 12, 13] (st_slices_Equal_byte_byte_L0 a0 a1) (fin_slices_Equal_byte_byte_L0 a0 a1) r).1 ∧ [(0, (l_B a0)), (1, (l_B a1)), (12, (.int .i64 (a0.length : Int))), (13, (.int .i64 (IntKind.i64.wrap (s3 + 1))))] = (roundX [0, 1, 12, 13] (st_slices_Equal_byte_byte_L0 a0 a1) (fin_slices_Equal_byte_byte_L0 a0 a1) r).2.1 ∧ [] = (roundX [0, 1, 12, 13] (st_slices_Equal_byte_byte_L0 a0 a1) (fin_slices_Equal_byte_byte_L0 a0 a1) r).2.2)))))) ∧ ((decide (s3 < (a0.length : Int))) = false → ((.exit 0) = (roundX [0, 1, 12, 13] (st_slices_Equal_byte_byte_L0 a0 a1) (fin_slices_Equal_byte_byte_L0 a0 a1) r).1 ∧ [] = (roundX [0, 1, 12, 13] (st_slices_Equal_byte_byte_L0 a0 a1) (fin_slices_Equal_byte_byte_L0 a0 a1) r).2.1 ∧ [] = (roundX [0, 1, 12, 13] (st_slices_Equal_byte_byte_L0 a0 a1) (fin_slices_Equal_byte_byte_L0 a0 a1) r).2.2))) := fun C => by kernel_rfl
  refine runS_of (fun _ _ h => by cases h) WB120_0_ok (Nat.le_of_ble_eq_true rfl) ((e _).mpr ?_)
  unfold slices_Equal_byte_byte_L0_s at h
  refine ⟨fun hb => ?_, fun hb => ?_⟩
  · have h := cond_t hb h
    obtain ⟨q4, h⟩ := bget hx4 h
    refine ⟨wP_idx R_B q4, ?_⟩
    obtain ⟨q5, h⟩ := bget hx5 h
    refine ⟨wP_idx R_B q5, ?_⟩
    refine ⟨fun hb => ?_, fun hb => ?_⟩
    · have h := cond_t hb h
      obtain rfl := Option.some.inj h
      exact ⟨rfl, by first | rfl | (simp only [roundX, zipKeep, fin_slices_Equal_byte_byte_L0, st_slices_Equal_byte_byte_L0, List.length_set, List.length_append, List.length_replicate, List.length_cons, List.length_nil, Nat.add_zero, Nat.zero_add]; done) | simp [roundX, zipKeep, fin_slices_Equal_byte_byte_L0, st_slices_Equal_byte_byte_L0], by first | rfl | (simp only [roundX, zipKeep, fin_slices_Equal_byte_byte_L0, st_slices_Equal_byte_byte_L0, List.length_set, List.length_append, List.length_replicate, List.length_cons, List.length_nil, Nat.add_zero, Nat.zero_add]; done) | simp [roundX, zipKeep, fin_slices_Equal_byte_byte_L0, st_slices_Equal_byte_byte_L0]⟩
    · have h := cond_f hb h
      obtain rfl := Option.some.inj h
      exact ⟨rfl, by first | rfl | (simp only [roundX, zipKeep, fin_slices_Equal_byte_byte_L0, st_slices_Equal_byte_byte_L0, List.length_set, List.length_append, List.length_replicate, List.length_cons, List.length_nil, Nat.add_zero, Nat.zero_add]; done) | simp [roundX, zipKeep, fin_slices_Equal_byte_byte_L0, st_slices_Equal_byte_byte_L0], by first | rfl | (simp only [roundX, zipKeep, fin_slices_Equal_byte_byte_L0, st_slices_Equal_byte_byte_L0, List.length_set, List.length_append, List.length_replicate, List.length_cons, List.length_nil, Nat.add_zero, Nat.zero_add]; done) | simp [roundX, zipKeep, fin_slices_Equal_byte_byte_L0, st_slices_Equal_byte_byte_L0]⟩
  · have h := cond_f hb h
    obtain rfl := Option.some.inj h
    exact ⟨rfl, by first | rfl | (simp only [roundX, zipKeep, fin_slices_Equal_byte_byte_L0, st_slices_Equal_byte_byte_L0, List.length_set, List.length_append, List.length_replicate, List.length_cons, List.length_nil, Nat.add_zero, Nat.zero_add]; done) | simp [roundX, zipKeep, fin_slices_Equal_byte_byte_L0, st_slices_Equal_byte_byte_L0], by first | rfl | (simp only [roundX, zipKeep, fin_slices_Equal_byte_byte_L0, st_slices_Equal_byte_byte_L0, List.length_set, List.length_append, List.length_replicate, List.length_cons, List.length_nil, Nat.add_zero, Nat.zero_add]; done) | simp [roundX, zipKeep, fin_slices_Equal_byte_byte_L0, st_slices_Equal_byte_byte_L0]⟩
theorem s_slices_Equal_byte_byte_L0 (d : Nat) {a0 : List UInt8} {a1 : List UInt8} {s3 : Int} {r : Unit ⊕ Unit} (h : slices_Equal_byte_byte_L0 a0 a1 s3 = some r) : RunS (bloop (bexec (wcalls atab (d + 0)) KK 26 WB120_0) [0, 1, 12, 13] KK) 0 [(0, (l_B a0)), (1, (l_B a1)), (12, (.int .i64 (a0.length : Int))), (13, (.int .i64 s3))] [] (fin_slices_Equal_byte_byte_L0 a0 a1 r).1 (fin_slices_Equal_byte_byte_L0 a0 a1 r).2.1 (fin_slices_Equal_byte_byte_L0 a0 a1 r).2.2 :=
  loop_of (st := st_slices_Equal_byte_byte_L0 a0 a1) (fin := fin_slices_Equal_byte_byte_L0 a0 a1) (step := slices_Equal_byte_byte_L0_s a0 a1) (fun e => by rcases e with e | e <;> (intro h; cases h)) (fun s x h => b_slices_Equal_byte_byte_L0 d h) KK s3 r h

def slices_Equal_byte_byte (a0 : List UInt8) (a1 : List UInt8) : Option (Bool) :=
  cond ((a0.length : Int) != (a1.length : Int)) (some false) ((slices_Equal_byte_byte_L0 a0 a1 0).bind fun (x6 : Unit ⊕ Unit) => cond (isL x6) (some false) (some true))

theorem s_slices_Equal_byte_byte (d : Nat) {a0 : List UInt8} {a1 : List UInt8} {r : Bool} (h : slices_Equal_byte_byte a0 a1 = some r) : Spec (wcalls atab (d + 1)) 120 [(l_B a0), (l_B a1)] [] (.bool r) [] := by
  obtain ⟨x6, hx6⟩ : ∃ x : Unit ⊕ Unit, x = (slices_Equal_byte_byte_L0 a0 a1 0).getD default := ⟨_, rfl⟩
  have e : ∀ C : ACalls, wBody C (fun _ => none) KK WF120 [(l_B a0), (l_B a1)] [] (.br 10 (.fin (some false) [] none) (.ite (isL x6) (.lp [none, none, none, none] [] [] .ret [(4, (.bool false))] [] (.fin (some false) [] none)) (.lp [none, none, none, none] [] [] (.exit 0) [] [] (.fin (some false) [] none)))) (.bool r) [] = (2 = 2 ∧ 2 ≤ 26 ∧ ((((a0.length : Int) != (a1.length : Int)) = true → (@Eq AV (.bool false) (.bool r) ∧ @Eq WH [] [])) ∧ (((a0.length : Int) != (a1.length : Int)) = false → (((isL x6) = true → (RunS (bloop (bexec C KK 26 WB120_0) [0, 1, 12, 13] KK) 0 [(0, (l_B a0)), (1, (l_B a1)), (12, (.int .i64 (a0.length : Int))), (13, (.int .i64 0))] [] .ret [(4, (.bool false))] [] ∧ (@Eq AV (.bool false) (.bool r) ∧ @Eq WH [] []))) ∧ ((isL x6) = false → (RunS (bloop (bexec C KK 26 WB120_0) [0, 1, 12, 13] KK) 0 [(0, (l_B a0)), (1, (l_B a1)), (12, (.int .i64 (a0.length : Int))), (13, (.int .i64 0))] [] (.exit 0) [] [] ∧ (@Eq AV (.bool true) (.bool r) ∧ @Eq WH [] []))))))) := fun C => by kernel_rfl
  refine spec_of (fun _ _ h => by cases h) rfl atab_120 WF120_ok ((e _).mpr ⟨rfl, by decide, ?_⟩)
  unfold slices_Equal_byte_byte at h
  refine ⟨fun hb => ?_, fun hb => ?_⟩
  · have h := cond_t hb h
    obtain rfl := Option.some.inj h
    exact ⟨by wleaf, by wleaf⟩
  · have h := cond_f hb h
    obtain ⟨q6, h⟩ := bget hx6 h
    refine ⟨fun hb7 => ?_, fun hb7 => ?_⟩
    · have h := cond_t hb7 h
      refine ⟨by have h := s_slices_Equal_byte_byte_L0 (d + 0) q6; rw [isL_t hb7] at h; exact h, ?_⟩
      obtain rfl := Option.some.inj h
      exact ⟨by wleaf, by wleaf⟩
    · have h := cond_f hb7 h
      refine ⟨by have h := s_slices_Equal_byte_byte_L0 (d + 0) q6; rw [isL_f hb7] at h; exact h, ?_⟩
      obtain rfl := Option.some.inj h
      exact ⟨by wleaf, by wleaf⟩

/- osmosis/frame.one -/
def fin_frame_one_J0 (x2 : Int × List UInt8 × Int) (p_b : List UInt8) (x3 : List UInt8) : Unit ⊕ Unit → Ex × Fast × WH := fun
  | .inl e => (.ret, [(2, (.slice none 1 0 0 true)), (3, (.int .i64 0)), (4, (.bool false))], [])
  | .inr e => (.normal, [(0, (l_B p_b)), (5, (.int .i64 x2.1)), (8, (.int .i64 (IntKind.i64.wrap ((IntKind.i64.wrap ((x3.length : Int) - (x2.2.1.length : Int))) + 8))))], [])
def frame_one_J0 (x2 : Int × List UInt8 × Int) (p_b : List UInt8) (x3 : List UInt8) : Option (Unit ⊕ Unit) :=
  cond (x2.2.2 != 0) (some (.inl ())) (cond (decide (x2.1 > 4000)) (some (.inl ())) (cond (decide ((p_b.length : Int) < (IntKind.i64.wrap ((IntKind.i64.wrap ((IntKind.i64.wrap ((x3.length : Int) - (x2.2.1.length : Int))) + 8)) + x2.1)))) (some (.inl ())) (some (.inr ()))))
theorem s_frame_one_J0 (d : Nat) {x2 : Int × List UInt8 × Int} {p_b : List UInt8} {x3 : List UInt8} {r : Unit ⊕ Unit} (h : frame_one_J0 x2 p_b x3 = some r) : RunS (bexec (wcalls atab (d + 0)) KK 64 WJ85_bbba) 0 [(0, (l_B p_b)), (5, (.int .i64 x2.1)), (7, (.int .i64 x2.2.2)), (8, (.int .i64 (IntKind.i64.wrap ((IntKind.i64.wrap ((x3.length : Int) - (x2.2.1.length : Int))) + 8))))] [] (fin_frame_one_J0 x2 p_b x3 r).1 (fin_frame_one_J0 x2 p_b x3 r).2.1 (fin_frame_one_J0 x2 p_b x3 r).2.2 := by
  have e : ∀ C : ACalls, wCode C (fun _ => none) KK 64 0 WJ85_bbba [(0, (l_B p_b)), (5, (.int .i64 x2.1)), (7, (.int .i64 x2.2.2)), (8, (.int .i64 (IntKind.i64.wrap ((IntKind.i64.wrap ((x3.length : Int) - (x2.2.1.length : Int))) + 8))))] [] (.br 31 (.en [2, 3, 4] [none, none, none] [] []) (.br 35 (.en [2, 3, 4] [none, none, none] [] []) (.br 42 (.en [2, 3, 4] [none, none, none] [] []) (.en [0, 5, 8] [none, none, none] [] [])))) (fin_frame_one_J0 x2 p_b x3 r) = (((x2.2.2 != 0) = true → (.ret = (fin_frame_one_J0 x2 p_b x3 r).1 ∧ [(2, (.slice none 1 0 0 true)), (3, (.int .i64 0)), (4, (.bool false))] = (fin_frame_one_J0 x2 p_b x3 r).2.1 ∧ [] = (fin_frame_one_J0 x2 p_b x3 r).2.2)) ∧ ((x2.2.2 != 0) = false → (((decide (x2.1 > 4000)) = true → (.ret = (fin_frame_one_J0 x2 p_b x3 r).1 ∧ [(2, (.slice none 1 0 0 true)), (3, (.int .i64 0)), (4, (.bool false))] = (fin_frame_one_J0 x2 p_b x3 r).2.1 ∧ [] = (fin_frame_one_J0 x2 p_b x3 r).2.2)) ∧ ((decide (x2.1 > 4000)) = false → (((decide ((p_b.length : Int) < (IntKind.i64.wrap ((IntKind.i64.wrap ((IntKind.i64.wrap ((x3.length : Int) - (x2.2.1.length : Int))) + 8)) + x2.1)))) = true → (.ret = (fin_frame_one_J0 x2 p_b x3 r).1 ∧ [(2, (.slice none 1 0 0 true)), (3, (.int .i64 0)), (4, (.bool false))] = (fin_frame_one_J0 x2 p_b x3 r).2.1 ∧ [] = (fin_frame_one_J0 x2 p_b x3 r).2.2)) ∧ ((decide ((p_b.length : Int) < (IntKind.i64.wrap ((IntKind.i64.wrap ((IntKind.i64.wrap ((x3.length : Int) - (x2.2.1.length : Int))) + 8)) + x2.1)))) = false → (.normal = (fin_frame_one_J0 x2 p_b x3 r).1 ∧ [(0, (l_B p_b)), (5, (.int .i64 x2.1)), (8, (.int .i64 (IntKind.i64.wrap ((IntKind.i64.wrap ((x3.length : Int) - (x2.2.1.length : Int))) + 8))))] = (fin_frame_one_J0 x2 p_b x3 r).2.1 ∧ [] = (fin_frame_one_J0 x2 p_b x3 r).2.2))))))) := fun C => by kernel_rfl
  refine runS_of (fun _ _ h => by cases h) WJ85_bbba_ok (Nat.le_of_ble_eq_true rfl) ((e _).mpr ?_)
  unfold frame_one_J0 at h
  refine ⟨fun hb => ?_, fun hb => ?_⟩
  · have h := cond_t hb h
    obtain rfl := Option.some.inj h
    exact ⟨rfl, by first | rfl | (simp only [roundX, zipKeep, fin_frame_one_J0, List.length_set, List.length_append, List.length_replicate, List.length_cons, List.length_nil, Nat.add_zero, Nat.zero_add]; done) | simp [roundX, zipKeep, fin_frame_one_J0], by first | rfl | (simp only [roundX, zipKeep, fin_frame_one_J0, List.length_set, List.length_append, List.length_replicate, List.length_cons, List.length_nil, Nat.add_zero, Nat.zero_add]; done) | simp [roundX, zipKeep, fin_frame_one_J0]⟩
  · have h := cond_f hb h
    refine ⟨fun hb => ?_, fun hb => ?_⟩
    · have h := cond_t hb h
      obtain rfl := Option.some.inj h
      exact ⟨rfl, by first | rfl | (simp only [roundX, zipKeep, fin_frame_one_J0, List.length_set, List.length_append, List.length_replicate, List.length_cons, List.length_nil, Nat.add_zero, Nat.zero_add]; done) | simp [roundX, zipKeep, fin_frame_one_J0], by first | rfl | (simp only [roundX, zipKeep, fin_frame_one_J0, List.length_set, List.length_append, List.length_replicate, List.length_cons, List.length_nil, Nat.add_zero, Nat.zero_add]; done) | simp [roundX, zipKeep, fin_frame_one_J0]⟩
    · have h := cond_f hb h
      refine ⟨fun hb => ?_, fun hb => ?_⟩
      · have h := cond_t hb h
        obtain rfl := Option.some.inj h
        exact ⟨rfl, by first | rfl | (simp only [roundX, zipKeep, fin_frame_one_J0, List.length_set, List.length_append, List.length_replicate, List.length_cons, List.length_nil, Nat.add_zero, Nat.zero_add]; done) | simp [roundX, zipKeep, fin_frame_one_J0], by first | rfl | (simp only [roundX, zipKeep, fin_frame_one_J0, List.length_set, List.length_append, List.length_replicate, List.length_cons, List.length_nil, Nat.add_zero, Nat.zero_add]; done) | simp [roundX, zipKeep, fin_frame_one_J0]⟩
      · have h := cond_f hb h
        obtain rfl := Option.some.inj h
        exact ⟨rfl, by first | rfl | (simp only [roundX, zipKeep, fin_frame_one_J0, List.length_set, List.length_append, List.length_replicate, List.length_cons, List.length_nil, Nat.add_zero, Nat.zero_add]; done) | simp [roundX, zipKeep, fin_frame_one_J0], by first | rfl | (simp only [roundX, zipKeep, fin_frame_one_J0, List.length_set, List.length_append, List.length_replicate, List.length_cons, List.length_nil, Nat.add_zero, Nat.zero_add]; done) | simp [roundX, zipKeep, fin_frame_one_J0]⟩

def frame_one (p_b : List UInt8) : Option (List UInt8 × Int × Bool) :=
  (slI p_b 0 (if (9 : Int) < (p_b.length : Int) then 9 else (p_b.length : Int))).bind fun (x1 : List UInt8) => (nums_Take x1).bind fun (x2 : Int × List UInt8 × Int) => (slI p_b 0 (if (9 : Int) < (p_b.length : Int) then 9 else (p_b.length : Int))).bind fun (x3 : List UInt8) => (frame_one_J0 x2 p_b x3).bind fun (x4 : Unit ⊕ Unit) => cond (isL x4) (some ([], 0, false)) ((slI p_b (IntKind.i64.wrap ((IntKind.i64.wrap ((x3.length : Int) - (x2.2.1.length : Int))) + 8)) (IntKind.i64.wrap ((IntKind.i64.wrap ((IntKind.i64.wrap ((x3.length : Int) - (x2.2.1.length : Int))) + 8)) + x2.1))).bind fun (x6 : List UInt8) => (frame_sum x6).bind fun (x7 : List UInt8) => (slI p_b (IntKind.i64.wrap ((IntKind.i64.wrap ((IntKind.i64.wrap ((x3.length : Int) - (x2.2.1.length : Int))) + 8)) - 8)) (IntKind.i64.wrap ((IntKind.i64.wrap ((x3.length : Int) - (x2.2.1.length : Int))) + 8))).bind fun (x8 : List UInt8) => (slices_Equal_byte_byte x7 x8).bind fun (x9 : Bool) => cond (!x9) (some ([], 0, false)) (gd (fitsB 1 x6.length) (some (x6, (IntKind.i64.wrap ((IntKind.i64.wrap ((IntKind.i64.wrap ((x3.length : Int) - (x2.2.1.length : Int))) + 8)) + x2.1)), true))))

theorem s_frame_one (d : Nat) {p_b : List UInt8} {r : List UInt8 × Int × Bool} (h : frame_one p_b = some r) : Spec (wcalls atab (d + 5)) 85 [(l_B p_b)] [] (.tuple [(l_B r.1), (.int .i64 r.2.1), (.bool r.2.2)]) [] := by
  obtain ⟨x1, hx1⟩ : ∃ x : List UInt8, x = (slI p_b 0 (if (9 : Int) < (p_b.length : Int) then 9 else (p_b.length : Int))).getD default := ⟨_, rfl⟩
  obtain ⟨x2, hx2⟩ : ∃ x : Int × List UInt8 × Int, x = (nums_Take x1).getD default := ⟨_, rfl⟩
  obtain ⟨x3, hx3⟩ : ∃ x : List UInt8, x = (slI p_b 0 (if (9 : Int) < (p_b.length : Int) then 9 else (p_b.length : Int))).getD default := ⟨_, rfl⟩
  obtain ⟨x4, hx4⟩ : ∃ x : Unit ⊕ Unit, x = (frame_one_J0 x2 p_b x3).getD default := ⟨_, rfl⟩
  obtain ⟨x6, hx6⟩ : ∃ x : List UInt8, x = (slI p_b (IntKind.i64.wrap ((IntKind.i64.wrap ((x3.length : Int) - (x2.2.1.length : Int))) + 8)) (IntKind.i64.wrap ((IntKind.i64.wrap ((IntKind.i64.wrap ((x3.length : Int) - (x2.2.1.length : Int))) + 8)) + x2.1))).getD default := ⟨_, rfl⟩
  obtain ⟨x7, hx7⟩ : ∃ x : List UInt8, x = (frame_sum x6).getD default := ⟨_, rfl⟩
  obtain ⟨x8, hx8⟩ : ∃ x : List UInt8, x = (slI p_b (IntKind.i64.wrap ((IntKind.i64.wrap ((IntKind.i64.wrap ((x3.length : Int) - (x2.2.1.length : Int))) + 8)) - 8)) (IntKind.i64.wrap ((IntKind.i64.wrap ((x3.length : Int) - (x2.2.1.length : Int))) + 8))).getD default := ⟨_, rfl⟩
  obtain ⟨x9, hx9⟩ : ∃ x : Bool, x = (slices_Equal_byte_byte x7 x8).getD default := ⟨_, rfl⟩
  have e : ∀ C : ACalls, wBody C wB KK WF85 [(l_B p_b)] [] (.v 14 (l_B x1) (.call [] (some false) [] (.tuple [(.int .i64 x2.1), (l_B x2.2.1), (.int .i64 x2.2.2)]) [] (.v 23 (l_B x3) (.ite (isL x4) (.jn [0, 5, 7, 8] [none, none, none, none] [] [] .ret [(2, (.slice none 1 0 0 true)), (3, (.int .i64 0)), (4, (.bool false))] [] (.fin (some false) [] none)) (.jn [0, 5, 7, 8] [none, none, none, none] [] [] .normal [(0, (l_B p_b)), (5, (.int .i64 x2.1)), (8, (.int .i64 (IntKind.i64.wrap ((IntKind.i64.wrap ((x3.length : Int) - (x2.2.1.length : Int))) + 8))))] [] (.v 48 (l_B x6) (.call [] (some false) [] (l_B x7) [] (.v 55 (l_B x8) (.cb [] [] (.bool x9) (.br 57 (.fin (some false) [] none) (.fin (some false) [] none))))))))))) (.tuple [(l_B r.1), (.int .i64 r.2.1), (.bool r.2.2)]) [] = (1 = 1 ∧ 1 ≤ 64 ∧ (wP (.slice 1 (.c (l_B p_b)) none (some (.c (.int .i64 (if (9 : Int) < (p_b.length : Int) then 9 else (p_b.length : Int))))) none) = some (l_B x1) ∧ (Spec C 119 [(l_B x1)] [] (.tuple [(.int .i64 x2.1), (l_B x2.2.1), (.int .i64 x2.2.2)]) [] ∧ (0 ≤ 0 ∧ (wP (.slice 1 (.c (l_B p_b)) none (some (.c (.int .i64 (if (9 : Int) < (p_b.length : Int) then 9 else (p_b.length : Int))))) none) = some (l_B x3) ∧ (((isL x4) = true → (RunS (bexec C KK 64 WJ85_bbba) 0 [(0, (l_B p_b)), (5, (.int .i64 x2.1)), (7, (.int .i64 x2.2.2)), (8, (.int .i64 (IntKind.i64.wrap ((IntKind.i64.wrap ((x3.length : Int) - (x2.2.1.length : Int))) + 8))))] [] .ret [(2, (.slice none 1 0 0 true)), (3, (.int .i64 0)), (4, (.bool false))] [] ∧ (@Eq AV (.tuple [(l_B []), (.int .i64 0), (.bool false)]) (.tuple [(l_B r.1), (.int .i64 r.2.1), (.bool r.2.2)]) ∧ @Eq WH [] []))) ∧ ((isL x4) = false → (RunS (bexec C KK 64 WJ85_bbba) 0 [(0, (l_B p_b)), (5, (.int .i64 x2.1)), (7, (.int .i64 x2.2.2)), (8, (.int .i64 (IntKind.i64.wrap ((IntKind.i64.wrap ((x3.length : Int) - (x2.2.1.length : Int))) + 8))))] [] .normal [(0, (l_B p_b)), (5, (.int .i64 x2.1)), (8, (.int .i64 (IntKind.i64.wrap ((IntKind.i64.wrap ((x3.length : Int) - (x2.2.1.length : Int))) + 8))))] [] ∧ (wP (.slice 1 (.c (l_B p_b)) (some (.c (.int .i64 (IntKind.i64.wrap ((IntKind.i64.wrap ((x3.length : Int) - (x2.2.1.length : Int))) + 8))))) (some (.c (.int .i64 (IntKind.i64.wrap ((IntKind.i64.wrap ((IntKind.i64.wrap ((x3.length : Int) - (x2.2.1.length : Int))) + 8)) + x2.1))))) none) = some (l_B x6) ∧ (Spec C 83 [(l_B x6)] [] (l_B x7) [] ∧ (0 ≤ 0 ∧ (wP (.slice 1 (.c (l_B p_b)) (some (.c (.int .i64 (IntKind.i64.wrap ((IntKind.i64.wrap ((IntKind.i64.wrap ((x3.length : Int) - (x2.2.1.length : Int))) + 8)) - 8))))) (some (.c (.int .i64 (IntKind.i64.wrap ((IntKind.i64.wrap ((x3.length : Int) - (x2.2.1.length : Int))) + 8))))) none) = some (l_B x8) ∧ (Spec C 120 [(l_B x7), (l_B x8)] [] (.bool x9) [] ∧ (((!x9) = true → (@Eq AV (.tuple [(l_B []), (.int .i64 0), (.bool false)]) (.tuple [(l_B r.1), (.int .i64 r.2.1), (.bool r.2.2)]) ∧ @Eq WH [] [])) ∧ ((!x9) = false → (fitsB 1 x6.length = true ∧ (@Eq AV (.tuple [(l_B x6), (.int .i64 (IntKind.i64.wrap ((IntKind.i64.wrap ((IntKind.i64.wrap ((x3.length : Int) - (x2.2.1.length : Int))) + 8)) + x2.1))), (.bool true)]) (.tuple [(l_B r.1), (.int .i64 r.2.1), (.bool r.2.2)]) ∧ @Eq WH [] []))))))))))))))))) := fun C => by kernel_rfl
  refine spec_of (wB_ok _) rfl atab_85 WF85_ok ((e _).mpr ⟨rfl, by decide, ?_⟩)
  unfold frame_one at h
  obtain ⟨q1, h⟩ := bget hx1 h
  refine ⟨wP_sl_h R_B q1, ?_⟩
  obtain ⟨q2, h⟩ := bget hx2 h
  refine ⟨s_nums_Take (d + 0) q2, ?_⟩
  refine ⟨by decide, ?_⟩
  obtain ⟨q3, h⟩ := bget hx3 h
  refine ⟨wP_sl_h R_B q3, ?_⟩
  obtain ⟨q4, h⟩ := bget hx4 h
  refine ⟨fun hb5 => ?_, fun hb5 => ?_⟩
  · have h := cond_t hb5 h
    refine ⟨by have h := s_frame_one_J0 (d + 4) q4; rw [isL_t hb5] at h; exact h, ?_⟩
    obtain rfl := Option.some.inj h
    exact ⟨by wleaf, by wleaf⟩
  · have h := cond_f hb5 h
    refine ⟨by have h := s_frame_one_J0 (d + 4) q4; rw [isL_f hb5] at h; exact h, ?_⟩
    obtain ⟨q6, h⟩ := bget hx6 h
    refine ⟨wP_sl_lh R_B q6, ?_⟩
    obtain ⟨q7, h⟩ := bget hx7 h
    refine ⟨s_frame_sum (d + 2) q7, ?_⟩
    refine ⟨by decide, ?_⟩
    obtain ⟨q8, h⟩ := bget hx8 h
    refine ⟨wP_sl_lh R_B q8, ?_⟩
    obtain ⟨q9, h⟩ := bget hx9 h
    refine ⟨s_slices_Equal_byte_byte (d + 3) q9, ?_⟩
    refine ⟨fun hb => ?_, fun hb => ?_⟩
    · have h := cond_t hb h
      obtain rfl := Option.some.inj h
      exact ⟨by wleaf, by wleaf⟩
    · have h := cond_f hb h
      obtain ⟨q10, h⟩ := gd_some h
      refine ⟨q10, ?_⟩
      obtain rfl := Option.some.inj h
      exact ⟨by wleaf, by wleaf⟩

/- osmosis/frame.Read -/
def st_frame_Read_L0 (p_b : List UInt8) (s7 : Int × List (List UInt8)) : List AV × WH := ([(l_B p_b), (.acc 0 0 1 s7.2.length true), (.int .i64 s7.1)], [(some (.cells (F_LB s7.2) false true))])
def fin_frame_Read_L0 (p_b : List UInt8) : (Int × List (List UInt8)) → Ex × Fast × WH := fun e => (.ret, [(2, (.acc 0 0 1 e.2.length true)), (3, (.int .i64 e.1))], [(some (.cells (F_LB e.2) false true))])
def frame_Read_L0_s (p_b : List UInt8) (s7 : Int × List (List UInt8)) : Option ((Int × List (List UInt8)) ⊕ ((Int × List (List UInt8)))) :=
  (slI p_b s7.1 p_b.length).bind fun (x8 : List UInt8) => (frame_one x8).bind fun (x9 : List UInt8 × Int × Bool) => cond (!x9.2.2) (some (.inr (s7.1, s7.2))) (gd (fitsB 24 (s7.2 ++ [x9.1]).length) (some (.inl ((IntKind.i64.wrap (s7.1 + x9.2.1)), (s7.2 ++ [x9.1])))))
def frame_Read_L0 (p_b : List UInt8) (s7 : Int × List (List UInt8)) : Option ((Int × List (List UInt8))) := loopX (frame_Read_L0_s p_b) KK s7
theorem b_frame_Read_L0 (d : Nat) {p_b : List UInt8} {s7 : Int × List (List UInt8)} {r : (Int × List (List UInt8)) ⊕ ((Int × List (List UInt8)))} (h : frame_Read_L0_s p_b s7 = some r) : RunS (bexec (wcalls atab (d + 5)) KK 27 WB24_0) 0 [(0, (l_B p_b)), (2, (.acc 0 0 1 s7.2.length true)), (3, (.int .i64 s7.1))] [(some (.cells (F_LB s7.2) false true))] (roundX [0, 2, 3] (st_frame_Read_L0 p_b) (fin_frame_Read_L0 p_b) r).1 (roundX [0, 2, 3] (st_frame_Read_L0 p_b) (fin_frame_Read_L0 p_b) r).2.1 (roundX [0, 2, 3] (st_frame_Read_L0 p_b) (fin_frame_Read_L0 p_b) r).2.2 := by
  obtain ⟨x8, hx8⟩ : ∃ x : List UInt8, x = (slI p_b s7.1 p_b.length).getD default := ⟨_, rfl⟩
  obtain ⟨x9, hx9⟩ : ∃ x : List UInt8 × Int × Bool, x = (frame_one x8).getD default := ⟨_, rfl⟩
  have e : ∀ C : ACalls, wCode C wB KK 27 0 WB24_0 [(0, (l_B p_b)), (2, (.acc 0 0 1 s7.2.length true)), (3, (.int .i64 s7.1))] [(some (.cells (F_LB s7.2) false true))] (.v 10 (l_B x8) (.call [] (some false) [] (.tuple [(l_B x9.1), (.int .i64 x9.2.1), (.bool x9.2.2)]) [] (.br 16 (.en [2, 3] [none, none] [] []) (.ap 23 (s7.2 ++ [x9.1]).length (F_LB (s7.2 ++ [x9.1])) (.en [0, 2, 3] [none, none, none] [] []))))) (roundX [0, 2, 3] (st_frame_Read_L0 p_b) (fin_frame_Read_L0 p_b) r) = (wP (.slice 1 (.c (l_B p_b)) (some (.c (.int .i64 s7.1))) none none) = some (l_B x8) ∧ (Spec C 85 [(l_B x8)] [] (.tuple [(l_B x9.1), (.int .i64 x9.2.1), (.bool x9.2.2)]) [] ∧ (0 ≤ 0 ∧ (((!x9.2.2) = true → (.ret = (roundX [0, 2, 3] (st_frame_Read_L0 p_b) (fin_frame_Read_L0 p_b) r).1 ∧ [(2, (.acc 0 0 1 s7.2.length true)), (3, (.int .i64 s7.1))] = (roundX [0, 2, 3] (st_frame_Read_L0 p_b) (fin_frame_Read_L0 p_b) r).2.1 ∧ [(some (.cells (F_LB s7.2) false true))] = (roundX [0, 2, 3] (st_frame_Read_L0 p_b) (fin_frame_Read_L0 p_b) r).2.2)) ∧ ((!x9.2.2) = false → (s7.2.length + 1 = (s7.2 ++ [x9.1]).length ∧ (F_LB s7.2 ++ F_LB [x9.1] = F_LB (s7.2 ++ [x9.1]) ∧ (fitsB 24 (s7.2 ++ [x9.1]).length = true ∧ (.normal = (roundX [0, 2, 3] (st_frame_Read_L0 p_b) (fin_frame_Read_L0 p_b) r).1 ∧ [(0, (l_B p_b)), (2, (.acc 0 0 1 ((s7.2 ++ [x9.1]).length) true)), (3, (.int .i64 (IntKind.i64.wrap (s7.1 + x9.2.1))))] = (roundX [0, 2, 3] (st_frame_Read_L0 p_b) (fin_frame_Read_L0 p_b) r).2.1 ∧ [(some (.cells (F_LB (s7.2 ++ [x9.1])) false true))] = (roundX [0, 2, 3] (st_frame_Read_L0 p_b) (fin_frame_Read_L0 p_b) r).2.2))))))))) := fun C => by kernel_rfl
  refine runS_of (wB_ok _) WB24_0_ok (Nat.le_of_ble_eq_true rfl) ((e _).mpr ?_)
  unfold frame_Read_L0_s at h
  obtain ⟨q8, h⟩ := bget hx8 h
  refine ⟨wP_sl_l R_B q8, ?_⟩
  obtain ⟨q9, h⟩ := bget hx9 h
  refine ⟨s_frame_one (d + 0) q9, ?_⟩
  refine ⟨by decide, ?_⟩
  refine ⟨fun hb => ?_, fun hb => ?_⟩
  · have h := cond_t hb h
    obtain rfl := Option.some.inj h
    exact ⟨rfl, by first | rfl | (simp only [roundX, zipKeep, fin_frame_Read_L0, st_frame_Read_L0, List.length_set, List.length_append, List.length_replicate, List.length_cons, List.length_nil, Nat.add_zero, Nat.zero_add]; done) | simp [roundX, zipKeep, fin_frame_Read_L0, st_frame_Read_L0], by first | rfl | (simp only [roundX, zipKeep, fin_frame_Read_L0, st_frame_Read_L0, List.length_set, List.length_append, List.length_replicate, List.length_cons, List.length_nil, Nat.add_zero, Nat.zero_add]; done) | simp [roundX, zipKeep, fin_frame_Read_L0, st_frame_Read_L0]⟩
  · have h := cond_f hb h
    obtain ⟨q10, h⟩ := gd_some h
    refine ⟨by simp, ?_⟩
    refine ⟨(Row.app R_LB _ _).symm, ?_⟩
    refine ⟨q10, ?_⟩
    obtain rfl := Option.some.inj h
    exact ⟨rfl, by first | rfl | (simp only [roundX, zipKeep, fin_frame_Read_L0, st_frame_Read_L0, List.length_set, List.length_append, List.length_replicate, List.length_cons, List.length_nil, Nat.add_zero, Nat.zero_add]; done) | simp [roundX, zipKeep, fin_frame_Read_L0, st_frame_Read_L0], by first | rfl | (simp only [roundX, zipKeep, fin_frame_Read_L0, st_frame_Read_L0, List.length_set, List.length_append, List.length_replicate, List.length_cons, List.length_nil, Nat.add_zero, Nat.zero_add]; done) | simp [roundX, zipKeep, fin_frame_Read_L0, st_frame_Read_L0]⟩
theorem s_frame_Read_L0 (d : Nat) {p_b : List UInt8} {s7 : Int × List (List UInt8)} {r : (Int × List (List UInt8))} (h : frame_Read_L0 p_b s7 = some r) : RunS (bloop (bexec (wcalls atab (d + 5)) KK 27 WB24_0) [0, 2, 3] KK) 0 [(0, (l_B p_b)), (2, (.acc 0 0 1 s7.2.length true)), (3, (.int .i64 s7.1))] [(some (.cells (F_LB s7.2) false true))] (fin_frame_Read_L0 p_b r).1 (fin_frame_Read_L0 p_b r).2.1 (fin_frame_Read_L0 p_b r).2.2 :=
  loop_of (st := st_frame_Read_L0 p_b) (fin := fin_frame_Read_L0 p_b) (step := frame_Read_L0_s p_b) (fun e => by (intro h; cases h)) (fun s x h => b_frame_Read_L0 d h) KK s7 r h

def frame_Read (p_b : List UInt8) : Option (List (List UInt8) × Int) :=
  (frame_Read_L0 p_b (0, [])).bind fun (x11 : (Int × List (List UInt8))) => some (x11.2, x11.1)

theorem s_frame_Read (d : Nat) {p_b : List UInt8} {r : List (List UInt8) × Int} (h : frame_Read p_b = some r) : Spec (wcalls atab (d + 6)) 24 [(l_B p_b)] [] (.tuple [(l_LB r.1), (.int .i64 r.2)]) [] := by
  obtain ⟨x11, hx11⟩ : ∃ x : (Int × List (List UInt8)), x = (frame_Read_L0 p_b (0, [])).getD default := ⟨_, rfl⟩
  have e : ∀ C : ACalls, wBody C (fun _ => none) KK WF24 [(l_B p_b)] [] (.lp [none, (some true), none] [] [] .ret [(2, (.acc 0 0 1 x11.2.length true)), (3, (.int .i64 x11.1))] [(some (.cells (F_LB x11.2) false true))] (.fin (some false) [] none)) (.tuple [(l_LB r.1), (.int .i64 r.2)]) [] = (1 = 1 ∧ 1 ≤ 27 ∧ (RunS (bloop (bexec C KK 27 WB24_0) [0, 2, 3] KK) 0 [(0, (l_B p_b)), (2, (.acc 0 0 1 0 true)), (3, (.int .i64 0))] [(some (.cells (F_LB []) false true))] .ret [(2, (.acc 0 0 1 x11.2.length true)), (3, (.int .i64 x11.1))] [(some (.cells (F_LB x11.2) false true))] ∧ (@Eq AV (.tuple [(l_LB x11.2), (.int .i64 x11.1)]) (.tuple [(l_LB r.1), (.int .i64 r.2)]) ∧ @Eq WH [] []))) := fun C => by kernel_rfl
  refine spec_of (fun _ _ h => by cases h) rfl atab_24 WF24_ok ((e _).mpr ⟨rfl, by decide, ?_⟩)
  unfold frame_Read at h
  obtain ⟨q11, h⟩ := bget hx11 h
  refine ⟨s_frame_Read_L0 (d + 0) q11, ?_⟩
  obtain rfl := Option.some.inj h
  exact ⟨by wleaf, by wleaf⟩

/- osmosis/osmosishand.Few -/
def osmosishand_Few (p_b : List UInt8) (n : Int) : Option (List UInt8) :=
  cond (decide ((p_b.length : Int) > n)) ((slI p_b 0 n).bind fun (x1 : List UInt8) => gd (fitsB 1 x1.length) (some x1)) (gd (fitsB 1 p_b.length) (some p_b))

theorem s_osmosishand_Few (d : Nat) {p_b : List UInt8} {n : Int} {r : List UInt8} (h : osmosishand_Few p_b n = some r) : Spec (wcalls atab (d + 1)) 34 [(l_B p_b), (.int .i64 n)] [] (l_B r) [] := by
  obtain ⟨x1, hx1⟩ : ∃ x : List UInt8, x = (slI p_b 0 n).getD default := ⟨_, rfl⟩
  have e : ∀ C : ACalls, wBody C (fun _ => none) KK WF34 [(l_B p_b), (.int .i64 n)] [] (.br 8 (.v 11 (l_B x1) (.ap 14 x1.length (F_B x1) (.fin (some false) [] none))) (.ap 14 p_b.length (F_B p_b) (.fin (some false) [] none))) (l_B r) [] = (2 = 2 ∧ 2 ≤ 15 ∧ (((decide ((p_b.length : Int) > n)) = true → (wP (.slice 1 (.c (l_B p_b)) none (some (.c (.int .i64 n))) none) = some (l_B x1) ∧ (0 + x1.length = x1.length ∧ (F_B [] ++ F_B x1 = F_B x1 ∧ (fitsB 1 x1.length = true ∧ (@Eq AV (l_B x1) (l_B r) ∧ @Eq WH [] [])))))) ∧ ((decide ((p_b.length : Int) > n)) = false → (0 + p_b.length = p_b.length ∧ (F_B [] ++ F_B p_b = F_B p_b ∧ (fitsB 1 p_b.length = true ∧ (@Eq AV (l_B p_b) (l_B r) ∧ @Eq WH [] []))))))) := fun C => by kernel_rfl
  refine spec_of (fun _ _ h => by cases h) rfl atab_34 WF34_ok ((e _).mpr ⟨rfl, by decide, ?_⟩)
  unfold osmosishand_Few at h
  refine ⟨fun hb => ?_, fun hb => ?_⟩
  · have h := cond_t hb h
    obtain ⟨q1, h⟩ := bget hx1 h
    refine ⟨wP_sl_h R_B q1, ?_⟩
    obtain ⟨q2, h⟩ := gd_some h
    refine ⟨by simp, ?_⟩
    refine ⟨by first | rfl | simp [F_B], ?_⟩
    refine ⟨q2, ?_⟩
    obtain rfl := Option.some.inj h
    exact ⟨by wleaf, by wleaf⟩
  · have h := cond_f hb h
    obtain ⟨q3, h⟩ := gd_some h
    refine ⟨by simp, ?_⟩
    refine ⟨by first | rfl | simp [F_B], ?_⟩
    refine ⟨q3, ?_⟩
    obtain rfl := Option.some.inj h
    exact ⟨by wleaf, by wleaf⟩

/- osmosis/osmosishand.Pick -/
def osmosishand_Pick (n : Int) (m : Int) : Option (Int) :=
  (remI .i64 n m).bind fun (x1 : Int) => cond (decide (x1 < 0)) (some (IntKind.i64.wrap (x1 + m))) (some x1)

theorem s_osmosishand_Pick (d : Nat) {n : Int} {m : Int} {r : Int} (h : osmosishand_Pick n m = some r) : Spec (wcalls atab (d + 1)) 28 [(.int .i64 n), (.int .i64 m)] [] (.int .i64 r) [] := by
  obtain ⟨x1, hx1⟩ : ∃ x : Int, x = (remI .i64 n m).getD default := ⟨_, rfl⟩
  have e : ∀ C : ACalls, wBody C (fun _ => none) KK WF28 [(.int .i64 n), (.int .i64 m)] [] (.v 7 (.int .i64 x1) (.br 9 (.fin (some false) [] none) (.fin (some false) [] none))) (.int .i64 r) [] = (2 = 2 ∧ 2 ≤ 14 ∧ (aInts .rem .i64 n m = some (.int .i64 x1) ∧ (((decide (x1 < 0)) = true → (@Eq AV (.int .i64 (IntKind.i64.wrap (x1 + m))) (.int .i64 r) ∧ @Eq WH [] [])) ∧ ((decide (x1 < 0)) = false → (@Eq AV (.int .i64 x1) (.int .i64 r) ∧ @Eq WH [] []))))) := fun C => by kernel_rfl
  refine spec_of (fun _ _ h => by cases h) rfl atab_28 WF28_ok ((e _).mpr ⟨rfl, by decide, ?_⟩)
  unfold osmosishand_Pick at h
  obtain ⟨q1, h⟩ := bget hx1 h
  refine ⟨wP_rem q1, ?_⟩
  refine ⟨fun hb => ?_, fun hb => ?_⟩
  · have h := cond_t hb h
    obtain rfl := Option.some.inj h
    exact ⟨by wleaf, by wleaf⟩
  · have h := cond_f hb h
    obtain rfl := Option.some.inj h
    exact ⟨by wleaf, by wleaf⟩

/- osmosis/disk.New -/
def disk_New  : Option (Int) :=
  some 0

theorem s_disk_New (d : Nat)  {r : Int} (h : disk_New = some r) : Spec (wcalls atab (d + 1)) 30 [] [] (.ptr (some (0, 0))) [(some (.cells [(.slice none 1 0 0 true), (.int .i64 r)] false false))] := by
  have e : ∀ C : ACalls, wBody C (fun _ => none) KK WF30 [] [] (.fin (some false) [] none) (.ptr (some (0, 0))) [(some (.cells [(.slice none 1 0 0 true), (.int .i64 r)] false false))] = (0 = 0 ∧ 0 ≤ 3 ∧ (@Eq AV (.ptr (some (0, 0))) (.ptr (some (0, 0))) ∧ @Eq WH [(some (.cells [(.slice none 1 0 0 true), (.int .i64 0)] false false))] [(some (.cells [(.slice none 1 0 0 true), (.int .i64 r)] false false))])) := fun C => by kernel_rfl
  refine spec_of (fun _ _ h => by cases h) rfl atab_30 WF30_ok ((e _).mpr ⟨rfl, by decide, ?_⟩)
  unfold disk_New at h
  obtain rfl := Option.some.inj h
  exact ⟨by wleaf, by wleaf⟩

/- (*osmosis/disk.Disk).Bytes -/
def disk_Disk_Bytes (p_d : Int) : Option (List UInt8) :=
  gd (fitsB 1 0) (some ([] : List UInt8))

theorem s_disk_Disk_Bytes (d : Nat) {p_d : Int} {r : List UInt8} (h : disk_Disk_Bytes p_d = some r) : Spec (wcalls atab (d + 2)) 50 [(.ptr (some (0, 0)))] [(some (.cells [(.slice none 1 0 0 true), (.int .i64 p_d)] false false))] (l_B r) [(some (.cells [(.slice none 1 0 0 true), (.int .i64 p_d)] false false))] := by
  have e : ∀ C : ACalls, wBody C wB KK WF50 [(.ptr (some (0, 0)))] [(some (.cells [(.slice none 1 0 0 true), (.int .i64 p_d)] false false))] (.fin (some false) [] none) (l_B r) [(some (.cells [(.slice none 1 0 0 true), (.int .i64 p_d)] false false))] = (1 = 1 ∧ 1 ≤ 9 ∧ (fitsB 1 0 = true ∧ (@Eq AV (l_B ([] : List UInt8)) (l_B r) ∧ @Eq WH [(some (.cells [(.slice none 1 0 0 true), (.int .i64 p_d)] false false))] [(some (.cells [(.slice none 1 0 0 true), (.int .i64 p_d)] false false))]))) := fun C => by kernel_rfl
  refine spec_of (wB_ok _) rfl atab_50 WF50_ok ((e _).mpr ⟨rfl, by decide, ?_⟩)
  unfold disk_Disk_Bytes at h
  obtain ⟨q1, h⟩ := gd_some h
  refine ⟨q1, ?_⟩
  obtain rfl := Option.some.inj h
  exact ⟨by wleaf, by wleaf⟩

/- (*osmosis/disk.Disk).Swap -/
def disk_Disk_Swap (p_b : List UInt8) (p_d : Int) : Option (Bool × Int × List UInt8) :=
  cond (decide ((p_b.length : Int) > 65536)) (some (false, p_d, [])) (gd (fitsB 1 p_b.length) (some (true, (p_b.length : Int), p_b)))

theorem s_disk_Disk_Swap (d : Nat) {p_b : List UInt8} {p_d : Int} {r : Bool × Int × List UInt8} (h : disk_Disk_Swap p_b p_d = some r) : Spec (wcalls atab (d + 2)) 91 [(.ptr (some (0, 0))), (l_B p_b)] [(some (.cells [(.slice none 1 0 0 true), (.int .i64 p_d)] false false))] (.bool r.1) [(some (.cells [(.acc 1 0 1 r.2.2.length true), (.int .i64 r.2.1)] false false)), (some (.cells (F_B r.2.2) false true))] := by
  have e : ∀ C : ACalls, wBody C wB KK WF91 [(.ptr (some (0, 0))), (l_B p_b)] [(some (.cells [(.slice none 1 0 0 true), (.int .i64 p_d)] false false))] (.br 7 (.fin (some false) [] (some true)) (.st none (.st none (.fin (some false) [] (some true))))) (.bool r.1) [(some (.cells [(.acc 1 0 1 r.2.2.length true), (.int .i64 r.2.1)] false false)), (some (.cells (F_B r.2.2) false true))] = (2 = 2 ∧ 2 ≤ 18 ∧ (((decide ((p_b.length : Int) > 65536)) = true → (@Eq AV (.bool false) (.bool r.1) ∧ @Eq WH [(some (.cells [(.acc 1 0 1 0 true), (.int .i64 p_d)] false false)), (some (.cells (F_B []) false true))] [(some (.cells [(.acc 1 0 1 r.2.2.length true), (.int .i64 r.2.1)] false false)), (some (.cells (F_B r.2.2) false true))])) ∧ ((decide ((p_b.length : Int) > 65536)) = false → (fitsB 1 p_b.length = true ∧ (@Eq AV (.bool true) (.bool r.1) ∧ @Eq WH [(some (.cells [(.acc 1 0 1 p_b.length true), (.int .i64 (p_b.length : Int))] false false)), (some (.cells (F_B p_b) false true))] [(some (.cells [(.acc 1 0 1 r.2.2.length true), (.int .i64 r.2.1)] false false)), (some (.cells (F_B r.2.2) false true))]))))) := fun C => by kernel_rfl
  refine spec_of (wB_ok _) rfl atab_91 WF91_ok ((e _).mpr ⟨rfl, by decide, ?_⟩)
  unfold disk_Disk_Swap at h
  refine ⟨fun hb => ?_, fun hb => ?_⟩
  · have h := cond_t hb h
    obtain rfl := Option.some.inj h
    exact ⟨by wleaf, by wleaf⟩
  · have h := cond_f hb h
    obtain ⟨q1, h⟩ := gd_some h
    refine ⟨q1, ?_⟩
    obtain rfl := Option.some.inj h
    exact ⟨by wleaf, by wleaf⟩

/- osmosis/wal.Open -/
def wal_Open (p_d : Int) : Option (Int × List UInt8) :=
  (disk_Disk_Bytes p_d).bind fun (x1 : List UInt8) => (frame_Read x1).bind fun (x2 : List (List UInt8) × Int) => cond (decide (x2.2 < (x1.length : Int))) ((slI x1 0 x2.2).bind fun (x3 : List UInt8) => (disk_Disk_Swap x3 p_d).bind fun (x4 : Bool × Int × List UInt8) => some (x4.2.1, x4.2.2)) (some (p_d, []))

theorem s_wal_Open (d : Nat) {p_d : Int} {r : Int × List UInt8} (h : wal_Open p_d = some r) : Spec (wcalls atab (d + 7)) 31 [(.ptr (some (0, 0)))] [(some (.cells [(.slice none 1 0 0 true), (.int .i64 p_d)] false false))] (.ptr (some (1, 0))) [(some (.cells [(.acc 2 0 1 r.2.length true), (.int .i64 r.1)] false false)), (some (.cells [(.ptr (some (0, 0)))] false false)), (some (.cells (F_B r.2) false true))] := by
  obtain ⟨x1, hx1⟩ : ∃ x : List UInt8, x = (disk_Disk_Bytes p_d).getD default := ⟨_, rfl⟩
  obtain ⟨x2, hx2⟩ : ∃ x : List (List UInt8) × Int, x = (frame_Read x1).getD default := ⟨_, rfl⟩
  obtain ⟨x3, hx3⟩ : ∃ x : List UInt8, x = (slI x1 0 x2.2).getD default := ⟨_, rfl⟩
  obtain ⟨x4, hx4⟩ : ∃ x : Bool × Int × List UInt8, x = (disk_Disk_Swap x3 p_d).getD default := ⟨_, rfl⟩
  have e : ∀ C : ACalls, wBody C (fun _ => none) KK WF31 [(.ptr (some (0, 0)))] [(some (.cells [(.slice none 1 0 0 true), (.int .i64 p_d)] false false))] (.call [] none [] (l_B x1) [(some (.cells [(.slice none 1 0 0 true), (.int .i64 p_d)] false false))] (.call [] (some false) [] (.tuple [(l_LB x2.1), (.int .i64 x2.2)]) [] (.br 18 (.v 22 (l_B x3) (.call [] none [] (.bool x4.1) [(some (.cells [(.acc 1 0 1 x4.2.2.length true), (.int .i64 x4.2.1)] false false)), (some (.cells (F_B x4.2.2) false true))] (.fin (some false) [] (some true)))) (.fin (some false) [] (some true))))) (.ptr (some (1, 0))) [(some (.cells [(.acc 2 0 1 r.2.length true), (.int .i64 r.1)] false false)), (some (.cells [(.ptr (some (0, 0)))] false false)), (some (.cells (F_B r.2) false true))] = (1 = 1 ∧ 1 ≤ 27 ∧ (Spec C 50 [(.ptr (some (0, 0)))] [(some (.cells [(.slice none 1 0 0 true), (.int .i64 p_d)] false false))] (l_B x1) [(some (.cells [(.slice none 1 0 0 true), (.int .i64 p_d)] false false))] ∧ (1 ≤ 1 ∧ (Spec C 24 [(l_B x1)] [] (.tuple [(l_LB x2.1), (.int .i64 x2.2)]) [] ∧ (0 ≤ 0 ∧ (((decide (x2.2 < (x1.length : Int))) = true → (wP (.slice 1 (.c (l_B x1)) none (some (.c (.int .i64 x2.2))) none) = some (l_B x3) ∧ (Spec C 91 [(.ptr (some (0, 0))), (l_B x3)] [(some (.cells [(.slice none 1 0 0 true), (.int .i64 p_d)] false false))] (.bool x4.1) [(some (.cells [(.acc 1 0 1 x4.2.2.length true), (.int .i64 x4.2.1)] false false)), (some (.cells (F_B x4.2.2) false true))] ∧ (1 ≤ 2 ∧ (@Eq AV (.ptr (some (1, 0))) (.ptr (some (1, 0))) ∧ @Eq WH [(some (.cells [(.acc 2 0 1 x4.2.2.length true), (.int .i64 x4.2.1)] false false)), (some (.cells [(.ptr (some (0, 0)))] false false)), (some (.cells (F_B x4.2.2) false true))] [(some (.cells [(.acc 2 0 1 r.2.length true), (.int .i64 r.1)] false false)), (some (.cells [(.ptr (some (0, 0)))] false false)), (some (.cells (F_B r.2) false true))]))))) ∧ ((decide (x2.2 < (x1.length : Int))) = false → (@Eq AV (.ptr (some (1, 0))) (.ptr (some (1, 0))) ∧ @Eq WH [(some (.cells [(.acc 2 0 1 0 true), (.int .i64 p_d)] false false)), (some (.cells [(.ptr (some (0, 0)))] false false)), (some (.cells (F_B []) false true))] [(some (.cells [(.acc 2 0 1 r.2.length true), (.int .i64 r.1)] false false)), (some (.cells [(.ptr (some (0, 0)))] false false)), (some (.cells (F_B r.2) false true))])))))))) := fun C => by kernel_rfl
  refine spec_of (fun _ _ h => by cases h) rfl atab_31 WF31_ok ((e _).mpr ⟨rfl, by decide, ?_⟩)
  unfold wal_Open at h
  obtain ⟨q1, h⟩ := bget hx1 h
  refine ⟨s_disk_Disk_Bytes (d + 4) q1, ?_⟩
  refine ⟨by decide, ?_⟩
  obtain ⟨q2, h⟩ := bget hx2 h
  refine ⟨s_frame_Read (d + 0) q2, ?_⟩
  refine ⟨by decide, ?_⟩
  refine ⟨fun hb => ?_, fun hb => ?_⟩
  · have h := cond_t hb h
    obtain ⟨q3, h⟩ := bget hx3 h
    refine ⟨wP_sl_h R_B q3, ?_⟩
    obtain ⟨q4, h⟩ := bget hx4 h
    refine ⟨s_disk_Disk_Swap (d + 4) q4, ?_⟩
    refine ⟨by decide, ?_⟩
    obtain rfl := Option.some.inj h
    exact ⟨by wleaf, by wleaf⟩
  · have h := cond_f hb h
    obtain rfl := Option.some.inj h
    exact ⟨by wleaf, by wleaf⟩

/- osmosis/wal.long$1 -/
def wal_long_1 (p_r : List UInt8) : Option (Bool) :=
  some (decide ((p_r.length : Int) > 4000))

theorem s_wal_long_1 (d : Nat) {p_r : List UInt8} {r : Bool} (h : wal_long_1 p_r = some r) : Spec (wcalls atab (d + 1)) 125 [(l_B p_r)] [] (.bool r) [] := by
  have e : ∀ C : ACalls, wBody C (fun _ => none) KK WF125 [(l_B p_r)] [] (.fin (some false) [] none) (.bool r) [] = (1 = 1 ∧ 1 ≤ 6 ∧ (@Eq AV (.bool (decide ((p_r.length : Int) > 4000))) (.bool r) ∧ @Eq WH [] [])) := fun C => by kernel_rfl
  refine spec_of (fun _ _ h => by cases h) rfl atab_125 WF125_ok ((e _).mpr ⟨rfl, by decide, ?_⟩)
  unfold wal_long_1 at h
  obtain rfl := Option.some.inj h
  exact ⟨by wleaf, by wleaf⟩

/- slices.IndexFunc[[][]byte,[]byte] -/
def st_slices_IndexFunc_byte_byte_2_L0 (a0 : List (List UInt8)) (s3 : Int) : List AV × WH := ([(l_LB a0), (.func 125 []), (.int .i64 (a0.length : Int)), (.int .i64 s3)], [])
def fin_slices_IndexFunc_byte_byte_2_L0 (a0 : List (List UInt8)) : Int ⊕ Unit → Ex × Fast × WH := fun
  | .inl e => (.ret, [(4, (.int .i64 e))], [])
  | .inr e => ((.exit 0), [], [])
def slices_IndexFunc_byte_byte_2_L0_s (a0 : List (List UInt8)) (s3 : Int) : Option ((Int) ⊕ (Int ⊕ Unit)) :=
  cond (decide (s3 < (a0.length : Int))) ((getI a0 s3).bind fun (x4 : List UInt8) => (wal_long_1 x4).bind fun (x5 : Bool) => cond x5 (some (.inr (.inl s3))) (some (.inl (IntKind.i64.wrap (s3 + 1))))) (some (.inr (.inr ())))
def slices_IndexFunc_byte_byte_2_L0 (a0 : List (List UInt8)) (s3 : Int) : Option (Int ⊕ Unit) := loopX (slices_IndexFunc_byte_byte_2_L0_s a0) KK s3
theorem b_slices_IndexFunc_byte_byte_2_L0 (d : Nat) {a0 : List (List UInt8)} {s3 : Int} {r : (Int) ⊕ (Int ⊕ Unit)} (h : slices_IndexFunc_byte_byte_2_L0_s a0 s3 = some r) : RunS (bexec (wcalls atab (d + 1)) KK 19 WB135_0) 0 [(0, (l_LB a0)), (1, (.func 125 [])), (7, (.int .i64 (a0.length : Int))), (8, (.int .i64 s3))] [] (roundX [0, 1, 7, 8] (st_slices_IndexFunc_byte_byte_2_L0 a0) (fin_slices_IndexFunc_byte_byte_2_L0 a0) r).1 (roundX [0, 1, 7, 8] (st_slices_IndexFunc_byte_byte_2_L0 a0) (fin_slices_IndexFunc_byte_byte_2_L0 a0) r).2.1 (roundX [0, 1, 7, 8] (st_slices_IndexFunc_byte_byte_2_L0 a0) (fin_slices_IndexFunc_byte_byte_2_L0 a0) r).2.2 := by
  obtain ⟨x4, hx4⟩ : ∃ x : List UInt8, x = (getI a0 s3).getD default := ⟨_, rfl⟩
  obtain ⟨x5, hx5⟩ : ∃ x : Bool, x = (wal_long_1 x4).getD default := ⟨_, rfl⟩
  have e : ∀ C : ACalls, wCode C (fun _ => none) KK 19 0 WB135_0 [(0, (l_LB a0)), (1, (.func 125 [])), (7, (.int .i64 (a0.length : Int))), (8, (.int .i64 s3))] [] (.br 9 (.v 14 (.elem ([(l_B x4)] ++ F_LB (a0.drop (s3.toNat + 1)))) (.cb [] [] (.bool x5) (.br 16 (.en [4] [none] [] []) (.en [0, 1, 7, 8] [none, none, none, none] [] [])))) (.en [] [] [] [])) (roundX [0, 1, 7, 8] (st_slices_IndexFunc_byte_byte_2_L0 a0) (fin_slices_IndexFunc_byte_byte_2_L0 a0) r) = (((decide (s3 < (a0.length : Int))) = true → (wP (.idxSlice 1 (.c (l_LB a0)) (.c (.int .i64 s3))) = some (.elem ([(l_B x4)] ++ F_LB (a0.drop (s3.toNat + 1)))) ∧ (Spec C 125 [(l_B x4)] [] (.bool x5) [] ∧ ((x5 = true → (.ret = (roundX [0, 1, 7, 8] (st_slices_IndexFunc_byte_byte_2_L0 a0) (fin_slices_IndexFunc_byte_byte_2_L0 a0) r).1 ∧ [(4, (.int .i64 s3))] = (roundX [0, 1, 7, 8] (st_slices_IndexFunc_byte_byte_2_L0 a0) (fin_slices_IndexFunc_byte_byte_2_L0 a0) r).2.1 ∧ [] = (roundX [0, 1, 7, 8] (st_slices_IndexFunc_byte_byte_2_L0 a0) (fin_slices_IndexFunc_byte_byte_2_L0 a0) r).2.2)) ∧ (x5 = false → (.normal = (roundX [0, 1, 7, 8] (st_slices_IndexFunc_byte_byte_2_L0 a0) (fin_slices_IndexFunc_byte_byte_2_L0 a0) r).1 ∧ [(0, (l_LB a0)), (1, (.func 125 [])), (7, (.int .i64 (a0.length : Int))), (8, (.int .i64 (IntKind.i64.wrap (s3 + 1))))] = (roundX [0, 1, 7, 8] (st_slices_IndexFunc_byte_byte_2_L0 a0) (fin_slices_IndexFunc_byte_byte_2_L0 a0) r).2.1 ∧ [] = (roundX [0, 1, 7, 8] (st_slices_IndexFunc_byte_byte_2_L0 a0) (fin_slices_IndexFunc_byte_byte_2_L0 a0) r).2.2)))))) ∧ ((decide (s3 < (a0.length : Int))) = false → ((.exit 0) = (roundX [0, 1, 7, 8] (st_slices_IndexFunc_byte_byte_2_L0 a0) (fin_slices_IndexFunc_byte_byte_2_L0 a0) r).1 ∧ [] = (roundX [0, 1, 7, 8] (st_slices_IndexFunc_byte_byte_2_L0 a0) (fin_slices_IndexFunc_byte_byte_2_L0 a0) r).2.1 ∧ [] = (roundX [0, 1, 7, 8] (st_slices_IndexFunc_byte_byte_2_L0 a0) (fin_slices_IndexFunc_byte_byte_2_L0 a0) r).2.2))) := fun C => by kernel_rfl
  refine runS_of (fun _ _ h => by cases h) WB135_0_ok (Nat.le_of_ble_eq_true rfl) ((e _).mpr ?_)
  unfold slices_IndexFunc_byte_byte_2_L0_s at h
  refine ⟨fun hb => ?_, fun hb => ?_⟩
  · have h := cond_t hb h
    obtain ⟨q4, h⟩ := bget hx4 h
    refine ⟨wP_idx R_LB q4, ?_⟩
    obtain ⟨q5, h⟩ := bget hx5 h
    refine ⟨s_wal_long_1 (d + 0) q5, ?_⟩
    refine ⟨fun hb => ?_, fun hb => ?_⟩
    · have h := cond_t hb h
      obtain rfl := Option.some.inj h
      exact ⟨rfl, by first | rfl | (simp only [roundX, zipKeep, fin_slices_IndexFunc_byte_byte_2_L0, st_slices_IndexFunc_byte_byte_2_L0, List.length_set, List.length_append, List.length_replicate, List.length_cons, List.length_nil, Nat.add_zero, Nat.zero_add]; done) | simp [roundX, zipKeep, fin_slices_IndexFunc_byte_byte_2_L0, st_slices_IndexFunc_byte_byte_2_L0], by first | rfl | (simp only [roundX, zipKeep, fin_slices_IndexFunc_byte_byte_2_L0, st_slices_IndexFunc_byte_byte_2_L0, List.length_set, List.length_append, List.length_replicate, List.length_cons, List.length_nil, Nat.add_zero, Nat.zero_add]; done) | simp [roundX, zipKeep, fin_slices_IndexFunc_byte_byte_2_L0, st_slices_IndexFunc_byte_byte_2_L0]⟩
    · have h := cond_f hb h
      obtain rfl := Option.some.inj h
      exact ⟨rfl, by first | rfl | (simp only [roundX, zipKeep, fin_slices_IndexFunc_byte_byte_2_L0, st_slices_IndexFunc_byte_byte_2_L0, List.length_set, List.length_append, List.length_replicate, List.length_cons, List.length_nil, Nat.add_zero, Nat.zero_add]; done) | simp [roundX, zipKeep, fin_slices_IndexFunc_byte_byte_2_L0, st_slices_IndexFunc_byte_byte_2_L0], by first | rfl | (simp only [roundX, zipKeep, fin_slices_IndexFunc_byte_byte_2_L0, st_slices_IndexFunc_byte_byte_2_L0, List.length_set, List.length_append, List.length_replicate, List.length_cons, List.length_nil, Nat.add_zero, Nat.zero_add]; done) | simp [roundX, zipKeep, fin_slices_IndexFunc_byte_byte_2_L0, st_slices_IndexFunc_byte_byte_2_L0]⟩
  · have h := cond_f hb h
    obtain rfl := Option.some.inj h
    exact ⟨rfl, by first | rfl | (simp only [roundX, zipKeep, fin_slices_IndexFunc_byte_byte_2_L0, st_slices_IndexFunc_byte_byte_2_L0, List.length_set, List.length_append, List.length_replicate, List.length_cons, List.length_nil, Nat.add_zero, Nat.zero_add]; done) | simp [roundX, zipKeep, fin_slices_IndexFunc_byte_byte_2_L0, st_slices_IndexFunc_byte_byte_2_L0], by first | rfl | (simp only [roundX, zipKeep, fin_slices_IndexFunc_byte_byte_2_L0, st_slices_IndexFunc_byte_byte_2_L0, List.length_set, List.length_append, List.length_replicate, List.length_cons, List.length_nil, Nat.add_zero, Nat.zero_add]; done) | simp [roundX, zipKeep, fin_slices_IndexFunc_byte_byte_2_L0, st_slices_IndexFunc_byte_byte_2_L0]⟩
theorem s_slices_IndexFunc_byte_byte_2_L0 (d : Nat) {a0 : List (List UInt8)} {s3 : Int} {r : Int ⊕ Unit} (h : slices_IndexFunc_byte_byte_2_L0 a0 s3 = some r) : RunS (bloop (bexec (wcalls atab (d + 1)) KK 19 WB135_0) [0, 1, 7, 8] KK) 0 [(0, (l_LB a0)), (1, (.func 125 [])), (7, (.int .i64 (a0.length : Int))), (8, (.int .i64 s3))] [] (fin_slices_IndexFunc_byte_byte_2_L0 a0 r).1 (fin_slices_IndexFunc_byte_byte_2_L0 a0 r).2.1 (fin_slices_IndexFunc_byte_byte_2_L0 a0 r).2.2 :=
  loop_of (st := st_slices_IndexFunc_byte_byte_2_L0 a0) (fin := fin_slices_IndexFunc_byte_byte_2_L0 a0) (step := slices_IndexFunc_byte_byte_2_L0_s a0) (fun e => by rcases e with e | e <;> (intro h; cases h)) (fun s x h => b_slices_IndexFunc_byte_byte_2_L0 d h) KK s3 r h

def slices_IndexFunc_byte_byte_2 (a0 : List (List UInt8)) : Option (Int) :=
  (slices_IndexFunc_byte_byte_2_L0 a0 0).bind fun (x6 : Int ⊕ Unit) => cond (isL x6) (some (getL x6)) (some (-1))

theorem s_slices_IndexFunc_byte_byte_2 (d : Nat) {a0 : List (List UInt8)} {r : Int} (h : slices_IndexFunc_byte_byte_2 a0 = some r) : Spec (wcalls atab (d + 2)) 135 [(l_LB a0), (.func 125 [])] [] (.int .i64 r) [] := by
  obtain ⟨x6, hx6⟩ : ∃ x : Int ⊕ Unit, x = (slices_IndexFunc_byte_byte_2_L0 a0 0).getD default := ⟨_, rfl⟩
  have e : ∀ C : ACalls, wBody C (fun _ => none) KK WF135 [(l_LB a0), (.func 125 [])] [] (.ite (isL x6) (.lp [none, none, none, none] [] [] .ret [(4, (.int .i64 (getL x6)))] [] (.fin (some false) [] none)) (.lp [none, none, none, none] [] [] (.exit 0) [] [] (.fin (some false) [] none))) (.int .i64 r) [] = (2 = 2 ∧ 2 ≤ 19 ∧ (((isL x6) = true → (RunS (bloop (bexec C KK 19 WB135_0) [0, 1, 7, 8] KK) 0 [(0, (l_LB a0)), (1, (.func 125 [])), (7, (.int .i64 (a0.length : Int))), (8, (.int .i64 0))] [] .ret [(4, (.int .i64 (getL x6)))] [] ∧ (@Eq AV (.int .i64 (getL x6)) (.int .i64 r) ∧ @Eq WH [] []))) ∧ ((isL x6) = false → (RunS (bloop (bexec C KK 19 WB135_0) [0, 1, 7, 8] KK) 0 [(0, (l_LB a0)), (1, (.func 125 [])), (7, (.int .i64 (a0.length : Int))), (8, (.int .i64 0))] [] (.exit 0) [] [] ∧ (@Eq AV (.int .i64 (-1)) (.int .i64 r) ∧ @Eq WH [] []))))) := fun C => by kernel_rfl
  refine spec_of (fun _ _ h => by cases h) rfl atab_135 WF135_ok ((e _).mpr ⟨rfl, by decide, ?_⟩)
  unfold slices_IndexFunc_byte_byte_2 at h
  obtain ⟨q6, h⟩ := bget hx6 h
  refine ⟨fun hb7 => ?_, fun hb7 => ?_⟩
  · have h := cond_t hb7 h
    refine ⟨by have h := s_slices_IndexFunc_byte_byte_2_L0 (d + 0) q6; rw [isL_t hb7] at h; exact h, ?_⟩
    obtain rfl := Option.some.inj h
    exact ⟨by wleaf, by wleaf⟩
  · have h := cond_f hb7 h
    refine ⟨by have h := s_slices_IndexFunc_byte_byte_2_L0 (d + 0) q6; rw [isL_f hb7] at h; exact h, ?_⟩
    obtain rfl := Option.some.inj h
    exact ⟨by wleaf, by wleaf⟩

/- slices.ContainsFunc[[][]byte,[]byte] -/
def slices_ContainsFunc_byte_byte (a0 : List (List UInt8)) : Option (Bool) :=
  (slices_IndexFunc_byte_byte_2 a0).bind fun (x1 : Int) => some (decide (x1 ≥ 0))

theorem s_slices_ContainsFunc_byte_byte (d : Nat) {a0 : List (List UInt8)} {r : Bool} (h : slices_ContainsFunc_byte_byte a0 = some r) : Spec (wcalls atab (d + 3)) 124 [(l_LB a0), (.func 125 [])] [] (.bool r) [] := by
  obtain ⟨x1, hx1⟩ : ∃ x : Int, x = (slices_IndexFunc_byte_byte_2 a0).getD default := ⟨_, rfl⟩
  have e : ∀ C : ACalls, wBody C (fun _ => none) KK WF124 [(l_LB a0), (.func 125 [])] [] (.cb [] [] (.int .i64 x1) (.fin (some false) [] none)) (.bool r) [] = (2 = 2 ∧ 2 ≤ 9 ∧ (Spec C 135 [(l_LB a0), (.func 125 [])] [] (.int .i64 x1) [] ∧ (@Eq AV (.bool (decide (x1 ≥ 0))) (.bool r) ∧ @Eq WH [] []))) := fun C => by kernel_rfl
  refine spec_of (fun _ _ h => by cases h) rfl atab_124 WF124_ok ((e _).mpr ⟨rfl, by decide, ?_⟩)
  unfold slices_ContainsFunc_byte_byte at h
  obtain ⟨q1, h⟩ := bget hx1 h
  refine ⟨s_slices_IndexFunc_byte_byte_2 (d + 0) q1, ?_⟩
  obtain rfl := Option.some.inj h
  exact ⟨by wleaf, by wleaf⟩

/- osmosis/wal.long -/
def wal_long (records : List (List UInt8)) : Option (Bool) :=
  (slices_ContainsFunc_byte_byte records).bind fun (x1 : Bool) => some x1

theorem s_wal_long (d : Nat) {records : List (List UInt8)} {r : Bool} (h : wal_long records = some r) : Spec (wcalls atab (d + 4)) 92 [(l_LB records)] [] (.bool r) [] := by
  obtain ⟨x1, hx1⟩ : ∃ x : Bool, x = (slices_ContainsFunc_byte_byte records).getD default := ⟨_, rfl⟩
  have e : ∀ C : ACalls, wBody C (fun _ => none) KK WF92 [(l_LB records)] [] (.cb [] [] (.bool x1) (.fin (some false) [] none)) (.bool r) [] = (1 = 1 ∧ 1 ≤ 5 ∧ (Spec C 124 [(l_LB records), (.func 125 [])] [] (.bool x1) [] ∧ (@Eq AV (.bool x1) (.bool r) ∧ @Eq WH [] []))) := fun C => by kernel_rfl
  refine spec_of (fun _ _ h => by cases h) rfl atab_92 WF92_ok ((e _).mpr ⟨rfl, by decide, ?_⟩)
  unfold wal_long at h
  obtain ⟨q1, h⟩ := bget hx1 h
  refine ⟨s_slices_ContainsFunc_byte_byte (d + 0) q1, ?_⟩
  obtain rfl := Option.some.inj h
  exact ⟨by wleaf, by wleaf⟩

/- (*osmosis/disk.Disk).Append -/
def disk_Disk_Append (parts : List (List UInt8)) (p_d : Int) (p_b1 : List UInt8) : Option (Bool × List UInt8) :=
  (slices_Concat_byte_byte parts).bind fun (x1 : List UInt8) => cond (decide ((IntKind.i64.wrap ((p_b1.length : Int) + (x1.length : Int))) > 65536)) (some (false, p_b1)) (gd (fitsB 1 (p_b1 ++ x1).length) (some (true, (p_b1 ++ x1))))

theorem s_disk_Disk_Append (d : Nat) {parts : List (List UInt8)} {p_d : Int} {p_b1 : List UInt8} {r : Bool × List UInt8} (h : disk_Disk_Append parts p_d p_b1 = some r) : Spec (wcalls atab (d + 3)) 43 [(.ptr (some (0, 0))), (l_LB parts)] [(some (.cells [(.acc 1 0 1 p_b1.length true), (.int .i64 p_d)] false false)), (some (.cells (F_B p_b1) false true))] (.bool r.1) [(some (.cells [(.acc 2 0 1 r.2.length true), (.int .i64 p_d)] false false)), none, (some (.cells (F_B r.2) false true))] := by
  obtain ⟨x1, hx1⟩ : ∃ x : List UInt8, x = (slices_Concat_byte_byte parts).getD default := ⟨_, rfl⟩
  have e : ∀ C : ACalls, wBody C (fun _ => none) KK WF43 [(.ptr (some (0, 0))), (l_LB parts)] [(some (.cells [(.acc 1 0 1 p_b1.length true), (.int .i64 p_d)] false false)), (some (.cells (F_B p_b1) false true))] (.call [] (some false) [] (l_B x1) [] (.br 16 (.fin (some false) [] (some true)) (.ap 23 (p_b1 ++ x1).length (F_B (p_b1 ++ x1)) (.st none (.fin (some false) [] (some true)))))) (.bool r.1) [(some (.cells [(.acc 2 0 1 r.2.length true), (.int .i64 p_d)] false false)), none, (some (.cells (F_B r.2) false true))] = (2 = 2 ∧ 2 ≤ 26 ∧ (Spec C 81 [(l_LB parts)] [] (l_B x1) [] ∧ (0 ≤ 0 ∧ (((decide ((IntKind.i64.wrap ((p_b1.length : Int) + (x1.length : Int))) > 65536)) = true → (@Eq AV (.bool false) (.bool r.1) ∧ @Eq WH [(some (.cells [(.acc 2 0 1 p_b1.length true), (.int .i64 p_d)] false false)), none, (some (.cells (F_B p_b1) false true))] [(some (.cells [(.acc 2 0 1 r.2.length true), (.int .i64 p_d)] false false)), none, (some (.cells (F_B r.2) false true))])) ∧ ((decide ((IntKind.i64.wrap ((p_b1.length : Int) + (x1.length : Int))) > 65536)) = false → (p_b1.length + x1.length = (p_b1 ++ x1).length ∧ (F_B p_b1 ++ F_B x1 = F_B (p_b1 ++ x1) ∧ (fitsB 1 (p_b1 ++ x1).length = true ∧ (@Eq AV (.bool true) (.bool r.1) ∧ @Eq WH [(some (.cells [(.acc 2 0 1 ((p_b1 ++ x1).length) true), (.int .i64 p_d)] false false)), none, (some (.cells (F_B (p_b1 ++ x1)) false true))] [(some (.cells [(.acc 2 0 1 r.2.length true), (.int .i64 p_d)] false false)), none, (some (.cells (F_B r.2) false true))]))))))))) := fun C => by kernel_rfl
  refine spec_of (fun _ _ h => by cases h) rfl atab_43 WF43_ok ((e _).mpr ⟨rfl, by decide, ?_⟩)
  unfold disk_Disk_Append at h
  obtain ⟨q1, h⟩ := bget hx1 h
  refine ⟨s_slices_Concat_byte_byte (d + 0) q1, ?_⟩
  refine ⟨by decide, ?_⟩
  refine ⟨fun hb => ?_, fun hb => ?_⟩
  · have h := cond_t hb h
    obtain rfl := Option.some.inj h
    exact ⟨by wleaf, by wleaf⟩
  · have h := cond_f hb h
    obtain ⟨q2, h⟩ := gd_some h
    refine ⟨app_len _ _, ?_⟩
    refine ⟨(Row.app R_B _ _).symm, ?_⟩
    refine ⟨q2, ?_⟩
    obtain rfl := Option.some.inj h
    exact ⟨by wleaf, by wleaf⟩

/- (*osmosis/wal.Log).Add -/
def wal_Log_Add (records : List (List UInt8)) (p_b1 : Int) (p_b2 : List UInt8) : Option (Bool × List UInt8) :=
  (wal_long records).bind fun (x1 : Bool) => cond (!x1) ((frame_Lay [] records).bind fun (x2 : List UInt8) => (disk_Disk_Append [x2] p_b1 p_b2).bind fun (x3 : Bool × List UInt8) => some (x3.1, x3.2)) (some (false, p_b2))

theorem s_wal_Log_Add (d : Nat) {records : List (List UInt8)} {p_b1 : Int} {p_b2 : List UInt8} {r : Bool × List UInt8} (h : wal_Log_Add records p_b1 p_b2 = some r) : Spec (wcalls atab (d + 5)) 35 [(.ptr (some (0, 0))), (l_LB records)] [(some (.cells [(.ptr (some (1, 0)))] false false)), (some (.cells [(.acc 2 0 1 p_b2.length true), (.int .i64 p_b1)] false false)), (some (.cells (F_B p_b2) false true))] (.bool r.1) [(some (.cells [(.ptr (some (1, 0)))] false false)), (some (.cells [(.acc 3 0 1 r.2.length true), (.int .i64 p_b1)] false false)), none, (some (.cells (F_B r.2) false true))] := by
  obtain ⟨x1, hx1⟩ : ∃ x : Bool, x = (wal_long records).getD default := ⟨_, rfl⟩
  obtain ⟨x2, hx2⟩ : ∃ x : List UInt8, x = (frame_Lay [] records).getD default := ⟨_, rfl⟩
  obtain ⟨x3, hx3⟩ : ∃ x : Bool × List UInt8, x = (disk_Disk_Append [x2] p_b1 p_b2).getD default := ⟨_, rfl⟩
  have e : ∀ C : ACalls, wBody C (fun _ => none) KK WF35 [(.ptr (some (0, 0))), (l_LB records)] [(some (.cells [(.ptr (some (1, 0)))] false false)), (some (.cells [(.acc 2 0 1 p_b2.length true), (.int .i64 p_b1)] false false)), (some (.cells (F_B p_b2) false true))] (.cb [] [] (.bool x1) (.br 8 (.call [] (some false) [] (l_B x2) [] (.call [] none [] (.bool x3.1) [(some (.cells [(.acc 2 0 1 x3.2.length true), (.int .i64 p_b1)] false false)), none, (some (.cells (F_B x3.2) false true))] (.fin (some false) [] (some true)))) (.fin (some false) [] (some true)))) (.bool r.1) [(some (.cells [(.ptr (some (1, 0)))] false false)), (some (.cells [(.acc 3 0 1 r.2.length true), (.int .i64 p_b1)] false false)), none, (some (.cells (F_B r.2) false true))] = (2 = 2 ∧ 2 ≤ 18 ∧ (Spec C 92 [(l_LB records)] [] (.bool x1) [] ∧ (((!x1) = true → (Spec C 23 [(l_B []), (l_LB records)] [] (l_B x2) [] ∧ (0 ≤ 0 ∧ (Spec C 43 [(.ptr (some (0, 0))), (l_LB [x2])] [(some (.cells [(.acc 1 0 1 p_b2.length true), (.int .i64 p_b1)] false false)), (some (.cells (F_B p_b2) false true))] (.bool x3.1) [(some (.cells [(.acc 2 0 1 x3.2.length true), (.int .i64 p_b1)] false false)), none, (some (.cells (F_B x3.2) false true))] ∧ (2 ≤ 3 ∧ (@Eq AV (.bool x3.1) (.bool r.1) ∧ @Eq WH [(some (.cells [(.ptr (some (1, 0)))] false false)), (some (.cells [(.acc 3 0 1 x3.2.length true), (.int .i64 p_b1)] false false)), none, (some (.cells (F_B x3.2) false true))] [(some (.cells [(.ptr (some (1, 0)))] false false)), (some (.cells [(.acc 3 0 1 r.2.length true), (.int .i64 p_b1)] false false)), none, (some (.cells (F_B r.2) false true))])))))) ∧ ((!x1) = false → (@Eq AV (.bool false) (.bool r.1) ∧ @Eq WH [(some (.cells [(.ptr (some (1, 0)))] false false)), (some (.cells [(.acc 3 0 1 p_b2.length true), (.int .i64 p_b1)] false false)), none, (some (.cells (F_B p_b2) false true))] [(some (.cells [(.ptr (some (1, 0)))] false false)), (some (.cells [(.acc 3 0 1 r.2.length true), (.int .i64 p_b1)] false false)), none, (some (.cells (F_B r.2) false true))]))))) := fun C => by kernel_rfl
  refine spec_of (fun _ _ h => by cases h) rfl atab_35 WF35_ok ((e _).mpr ⟨rfl, by decide, ?_⟩)
  unfold wal_Log_Add at h
  obtain ⟨q1, h⟩ := bget hx1 h
  refine ⟨s_wal_long (d + 0) q1, ?_⟩
  refine ⟨fun hb => ?_, fun hb => ?_⟩
  · have h := cond_t hb h
    obtain ⟨q2, h⟩ := bget hx2 h
    refine ⟨s_frame_Lay (d + 1) q2, ?_⟩
    refine ⟨by decide, ?_⟩
    obtain ⟨q3, h⟩ := bget hx3 h
    refine ⟨s_disk_Disk_Append (d + 1) q3, ?_⟩
    refine ⟨by decide, ?_⟩
    obtain rfl := Option.some.inj h
    exact ⟨by wleaf, by wleaf⟩
  · have h := cond_f hb h
    obtain rfl := Option.some.inj h
    exact ⟨by wleaf, by wleaf⟩

/- (*osmosis/disk.Disk).Sync -/
def disk_Disk_Sync (p_d : Int) (p_b1 : List UInt8) : Option (Int × Int) :=
  some ((IntKind.i64.wrap ((p_b1.length : Int) - p_d)), (p_b1.length : Int))

theorem s_disk_Disk_Sync (d : Nat) {p_d : Int} {p_b1 : List UInt8} {r : Int × Int} (h : disk_Disk_Sync p_d p_b1 = some r) : Spec (wcalls atab (d + 1)) 38 [(.ptr (some (0, 0)))] [(some (.cells [(.acc 1 0 1 p_b1.length true), (.int .i64 p_d)] false false)), (some (.cells (F_B p_b1) false true))] (.int .i64 r.1) [(some (.cells [(.acc 1 0 1 p_b1.length true), (.int .i64 r.2)] false false)), (some (.cells (F_B p_b1) false true))] := by
  have e : ∀ C : ACalls, wBody C (fun _ => none) KK WF38 [(.ptr (some (0, 0)))] [(some (.cells [(.acc 1 0 1 p_b1.length true), (.int .i64 p_d)] false false)), (some (.cells (F_B p_b1) false true))] (.st none (.fin (some false) [] none)) (.int .i64 r.1) [(some (.cells [(.acc 1 0 1 p_b1.length true), (.int .i64 r.2)] false false)), (some (.cells (F_B p_b1) false true))] = (1 = 1 ∧ 1 ≤ 23 ∧ (@Eq AV (.int .i64 (IntKind.i64.wrap ((p_b1.length : Int) - p_d))) (.int .i64 r.1) ∧ @Eq WH [(some (.cells [(.acc 1 0 1 p_b1.length true), (.int .i64 (p_b1.length : Int))] false false)), (some (.cells (F_B p_b1) false true))] [(some (.cells [(.acc 1 0 1 p_b1.length true), (.int .i64 r.2)] false false)), (some (.cells (F_B p_b1) false true))])) := fun C => by kernel_rfl
  refine spec_of (fun _ _ h => by cases h) rfl atab_38 WF38_ok ((e _).mpr ⟨rfl, by decide, ?_⟩)
  unfold disk_Disk_Sync at h
  obtain rfl := Option.some.inj h
  exact ⟨by wleaf, by wleaf⟩

/- (*osmosis/disk.Disk).Crash -/
def disk_Disk_Crash (keep : Int) (p_d : Int) (p_b1 : List UInt8) : Option (Int × Int × List UInt8) :=
  (slI p_b1 0 (IntKind.i64.wrap (p_d + (if (if (IntKind.i64.wrap ((p_b1.length : Int) - p_d)) < keep then (IntKind.i64.wrap ((p_b1.length : Int) - p_d)) else keep) > 0 then (if (IntKind.i64.wrap ((p_b1.length : Int) - p_d)) < keep then (IntKind.i64.wrap ((p_b1.length : Int) - p_d)) else keep) else 0)))).bind fun (x1 : List UInt8) => some ((if (if (IntKind.i64.wrap ((p_b1.length : Int) - p_d)) < keep then (IntKind.i64.wrap ((p_b1.length : Int) - p_d)) else keep) > 0 then (if (IntKind.i64.wrap ((p_b1.length : Int) - p_d)) < keep then (IntKind.i64.wrap ((p_b1.length : Int) - p_d)) else keep) else 0), (IntKind.i64.wrap (p_d + (if (if (IntKind.i64.wrap ((p_b1.length : Int) - p_d)) < keep then (IntKind.i64.wrap ((p_b1.length : Int) - p_d)) else keep) > 0 then (if (IntKind.i64.wrap ((p_b1.length : Int) - p_d)) < keep then (IntKind.i64.wrap ((p_b1.length : Int) - p_d)) else keep) else 0))), x1)

theorem s_disk_Disk_Crash (d : Nat) {keep : Int} {p_d : Int} {p_b1 : List UInt8} {r : Int × Int × List UInt8} (h : disk_Disk_Crash keep p_d p_b1 = some r) : Spec (wcalls atab (d + 1)) 41 [(.ptr (some (0, 0))), (.int .i64 keep)] [(some (.cells [(.acc 1 0 1 p_b1.length true), (.int .i64 p_d)] false false)), (some (.cells (F_B p_b1) false true))] (.int .i64 r.1) [(some (.cells [(.acc 2 0 1 r.2.2.length true), (.int .i64 r.2.1)] false false)), none, (some (.cells (F_B r.2.2) false true))] := by
  obtain ⟨x1, hx1⟩ : ∃ x : List UInt8, x = (slI p_b1 0 (IntKind.i64.wrap (p_d + (if (if (IntKind.i64.wrap ((p_b1.length : Int) - p_d)) < keep then (IntKind.i64.wrap ((p_b1.length : Int) - p_d)) else keep) > 0 then (if (IntKind.i64.wrap ((p_b1.length : Int) - p_d)) < keep then (IntKind.i64.wrap ((p_b1.length : Int) - p_d)) else keep) else 0)))).getD default := ⟨_, rfl⟩
  have e : ∀ C : ACalls, wBody C (fun _ => none) KK WF41 [(.ptr (some (0, 0))), (.int .i64 keep)] [(some (.cells [(.acc 1 0 1 p_b1.length true), (.int .i64 p_d)] false false)), (some (.cells (F_B p_b1) false true))] (.st none (.v 35 (.acc 1 0 1 x1.length false) (.st none (.fin (some false) [] (some true))))) (.int .i64 r.1) [(some (.cells [(.acc 2 0 1 r.2.2.length true), (.int .i64 r.2.1)] false false)), none, (some (.cells (F_B r.2.2) false true))] = (2 = 2 ∧ 2 ≤ 39 ∧ (wP (.slice 1 (.c (.acc 1 0 1 p_b1.length true)) none (some (.c (.int .i64 (IntKind.i64.wrap (p_d + (if (if (IntKind.i64.wrap ((p_b1.length : Int) - p_d)) < keep then (IntKind.i64.wrap ((p_b1.length : Int) - p_d)) else keep) > 0 then (if (IntKind.i64.wrap ((p_b1.length : Int) - p_d)) < keep then (IntKind.i64.wrap ((p_b1.length : Int) - p_d)) else keep) else 0)))))) none) = some (.acc 1 0 1 x1.length false) ∧ (@Eq AV (.int .i64 (if (if (IntKind.i64.wrap ((p_b1.length : Int) - p_d)) < keep then (IntKind.i64.wrap ((p_b1.length : Int) - p_d)) else keep) > 0 then (if (IntKind.i64.wrap ((p_b1.length : Int) - p_d)) < keep then (IntKind.i64.wrap ((p_b1.length : Int) - p_d)) else keep) else 0)) (.int .i64 r.1) ∧ @Eq WH [(some (.cells [(.acc 2 0 1 x1.length true), (.int .i64 (IntKind.i64.wrap (p_d + (if (if (IntKind.i64.wrap ((p_b1.length : Int) - p_d)) < keep then (IntKind.i64.wrap ((p_b1.length : Int) - p_d)) else keep) > 0 then (if (IntKind.i64.wrap ((p_b1.length : Int) - p_d)) < keep then (IntKind.i64.wrap ((p_b1.length : Int) - p_d)) else keep) else 0))))] false false)), none, (some (.cells ((F_B p_b1).take (x1.length * 1)) false true))] [(some (.cells [(.acc 2 0 1 r.2.2.length true), (.int .i64 r.2.1)] false false)), none, (some (.cells (F_B r.2.2) false true))]))) := fun C => by kernel_rfl
  refine spec_of (fun _ _ h => by cases h) rfl atab_41 WF41_ok ((e _).mpr ⟨rfl, by decide, ?_⟩)
  unfold disk_Disk_Crash at h
  obtain ⟨q1, h⟩ := bget hx1 h
  refine ⟨wP_slA_h R_B q1, ?_⟩
  try rw [take_row R_B q1]
  try rw [part_row0 R_B q1]
  obtain rfl := Option.some.inj h
  exact ⟨by wleaf, by wleaf⟩

/- (*osmosis/disk.Disk).Bytes -/
def disk_Disk_Bytes_2 (p_d : Int) (p_b1 : List UInt8) : Option (List UInt8) :=
  gd (fitsB 1 p_b1.length) (some p_b1)

theorem s_disk_Disk_Bytes_2 (d : Nat) {p_d : Int} {p_b1 : List UInt8} {r : List UInt8} (h : disk_Disk_Bytes_2 p_d p_b1 = some r) : Spec (wcalls atab (d + 2)) 50 [(.ptr (some (0, 0)))] [(some (.cells [(.acc 1 0 1 p_b1.length true), (.int .i64 p_d)] false false)), (some (.cells (F_B p_b1) false true))] (l_B r) [(some (.cells [(.acc 1 0 1 p_b1.length true), (.int .i64 p_d)] false false)), (some (.cells (F_B p_b1) false true))] := by
  have e : ∀ C : ACalls, wBody C wB KK WF50 [(.ptr (some (0, 0)))] [(some (.cells [(.acc 1 0 1 p_b1.length true), (.int .i64 p_d)] false false)), (some (.cells (F_B p_b1) false true))] (.fin (some false) [] none) (l_B r) [(some (.cells [(.acc 1 0 1 p_b1.length true), (.int .i64 p_d)] false false)), (some (.cells (F_B p_b1) false true))] = (1 = 1 ∧ 1 ≤ 9 ∧ (fitsB 1 p_b1.length = true ∧ (@Eq AV (l_B p_b1) (l_B r) ∧ @Eq WH [(some (.cells [(.acc 1 0 1 p_b1.length true), (.int .i64 p_d)] false false)), (some (.cells (F_B p_b1) false true))] [(some (.cells [(.acc 1 0 1 p_b1.length true), (.int .i64 p_d)] false false)), (some (.cells (F_B p_b1) false true))]))) := fun C => by kernel_rfl
  refine spec_of (wB_ok _) rfl atab_50 WF50_ok ((e _).mpr ⟨rfl, by decide, ?_⟩)
  unfold disk_Disk_Bytes_2 at h
  obtain ⟨q1, h⟩ := gd_some h
  refine ⟨q1, ?_⟩
  obtain rfl := Option.some.inj h
  exact ⟨by wleaf, by wleaf⟩

/- (*osmosis/disk.Disk).Swap -/
def disk_Disk_Swap_2 (p_b : List UInt8) (p_d : Int) (p_b1 : List UInt8) : Option (Bool × Int × List UInt8) :=
  cond (decide ((p_b.length : Int) > 65536)) (some (false, p_d, p_b1)) (gd (fitsB 1 p_b.length) (some (true, (p_b.length : Int), p_b)))

theorem s_disk_Disk_Swap_2 (d : Nat) {p_b : List UInt8} {p_d : Int} {p_b1 : List UInt8} {r : Bool × Int × List UInt8} (h : disk_Disk_Swap_2 p_b p_d p_b1 = some r) : Spec (wcalls atab (d + 2)) 91 [(.ptr (some (0, 0))), (l_B p_b)] [(some (.cells [(.acc 1 0 1 p_b1.length true), (.int .i64 p_d)] false false)), (some (.cells (F_B p_b1) false true))] (.bool r.1) [(some (.cells [(.acc 2 0 1 r.2.2.length true), (.int .i64 r.2.1)] false false)), none, (some (.cells (F_B r.2.2) false true))] := by
  have e : ∀ C : ACalls, wBody C wB KK WF91 [(.ptr (some (0, 0))), (l_B p_b)] [(some (.cells [(.acc 1 0 1 p_b1.length true), (.int .i64 p_d)] false false)), (some (.cells (F_B p_b1) false true))] (.br 7 (.fin (some false) [] (some true)) (.st none (.st none (.kl [1] (.fin (some false) [] (some true)))))) (.bool r.1) [(some (.cells [(.acc 2 0 1 r.2.2.length true), (.int .i64 r.2.1)] false false)), none, (some (.cells (F_B r.2.2) false true))] = (2 = 2 ∧ 2 ≤ 18 ∧ (((decide ((p_b.length : Int) > 65536)) = true → (@Eq AV (.bool false) (.bool r.1) ∧ @Eq WH [(some (.cells [(.acc 2 0 1 p_b1.length true), (.int .i64 p_d)] false false)), none, (some (.cells (F_B p_b1) false true))] [(some (.cells [(.acc 2 0 1 r.2.2.length true), (.int .i64 r.2.1)] false false)), none, (some (.cells (F_B r.2.2) false true))])) ∧ ((decide ((p_b.length : Int) > 65536)) = false → (fitsB 1 p_b.length = true ∧ (@Eq AV (.bool true) (.bool r.1) ∧ @Eq WH [(some (.cells [(.acc 2 0 1 p_b.length true), (.int .i64 (p_b.length : Int))] false false)), none, (some (.cells (F_B p_b) false true))] [(some (.cells [(.acc 2 0 1 r.2.2.length true), (.int .i64 r.2.1)] false false)), none, (some (.cells (F_B r.2.2) false true))]))))) := fun C => by kernel_rfl
  refine spec_of (wB_ok _) rfl atab_91 WF91_ok ((e _).mpr ⟨rfl, by decide, ?_⟩)
  unfold disk_Disk_Swap_2 at h
  refine ⟨fun hb => ?_, fun hb => ?_⟩
  · have h := cond_t hb h
    obtain rfl := Option.some.inj h
    exact ⟨by wleaf, by wleaf⟩
  · have h := cond_f hb h
    obtain ⟨q1, h⟩ := gd_some h
    refine ⟨q1, ?_⟩
    obtain rfl := Option.some.inj h
    exact ⟨by wleaf, by wleaf⟩

/- osmosis/wal.Open -/
def wal_Open_2 (p_d : Int) (p_b1 : List UInt8) : Option (Int × List UInt8) :=
  (disk_Disk_Bytes_2 p_d p_b1).bind fun (x1 : List UInt8) => (frame_Read x1).bind fun (x2 : List (List UInt8) × Int) => cond (decide (x2.2 < (x1.length : Int))) ((slI x1 0 x2.2).bind fun (x3 : List UInt8) => (disk_Disk_Swap_2 x3 p_d p_b1).bind fun (x4 : Bool × Int × List UInt8) => some (x4.2.1, x4.2.2)) (some (p_d, p_b1))

theorem s_wal_Open_2 (d : Nat) {p_d : Int} {p_b1 : List UInt8} {r : Int × List UInt8} (h : wal_Open_2 p_d p_b1 = some r) : Spec (wcalls atab (d + 7)) 31 [(.ptr (some (0, 0)))] [(some (.cells [(.acc 1 0 1 p_b1.length true), (.int .i64 p_d)] false false)), (some (.cells (F_B p_b1) false true))] (.ptr (some (2, 0))) [(some (.cells [(.acc 3 0 1 r.2.length true), (.int .i64 r.1)] false false)), none, (some (.cells [(.ptr (some (0, 0)))] false false)), (some (.cells (F_B r.2) false true))] := by
  obtain ⟨x1, hx1⟩ : ∃ x : List UInt8, x = (disk_Disk_Bytes_2 p_d p_b1).getD default := ⟨_, rfl⟩
  obtain ⟨x2, hx2⟩ : ∃ x : List (List UInt8) × Int, x = (frame_Read x1).getD default := ⟨_, rfl⟩
  obtain ⟨x3, hx3⟩ : ∃ x : List UInt8, x = (slI x1 0 x2.2).getD default := ⟨_, rfl⟩
  obtain ⟨x4, hx4⟩ : ∃ x : Bool × Int × List UInt8, x = (disk_Disk_Swap_2 x3 p_d p_b1).getD default := ⟨_, rfl⟩
  have e : ∀ C : ACalls, wBody C (fun _ => none) KK WF31 [(.ptr (some (0, 0)))] [(some (.cells [(.acc 1 0 1 p_b1.length true), (.int .i64 p_d)] false false)), (some (.cells (F_B p_b1) false true))] (.call [] none [] (l_B x1) [(some (.cells [(.acc 1 0 1 p_b1.length true), (.int .i64 p_d)] false false)), (some (.cells (F_B p_b1) false true))] (.call [] (some false) [] (.tuple [(l_LB x2.1), (.int .i64 x2.2)]) [] (.br 18 (.v 22 (l_B x3) (.call [] none [] (.bool x4.1) [(some (.cells [(.acc 2 0 1 x4.2.2.length true), (.int .i64 x4.2.1)] false false)), none, (some (.cells (F_B x4.2.2) false true))] (.fin (some false) [] (some true)))) (.fin (some false) [] (some true))))) (.ptr (some (2, 0))) [(some (.cells [(.acc 3 0 1 r.2.length true), (.int .i64 r.1)] false false)), none, (some (.cells [(.ptr (some (0, 0)))] false false)), (some (.cells (F_B r.2) false true))] = (1 = 1 ∧ 1 ≤ 27 ∧ (Spec C 50 [(.ptr (some (0, 0)))] [(some (.cells [(.acc 1 0 1 p_b1.length true), (.int .i64 p_d)] false false)), (some (.cells (F_B p_b1) false true))] (l_B x1) [(some (.cells [(.acc 1 0 1 p_b1.length true), (.int .i64 p_d)] false false)), (some (.cells (F_B p_b1) false true))] ∧ (2 ≤ 2 ∧ (Spec C 24 [(l_B x1)] [] (.tuple [(l_LB x2.1), (.int .i64 x2.2)]) [] ∧ (0 ≤ 0 ∧ (((decide (x2.2 < (x1.length : Int))) = true → (wP (.slice 1 (.c (l_B x1)) none (some (.c (.int .i64 x2.2))) none) = some (l_B x3) ∧ (Spec C 91 [(.ptr (some (0, 0))), (l_B x3)] [(some (.cells [(.acc 1 0 1 p_b1.length true), (.int .i64 p_d)] false false)), (some (.cells (F_B p_b1) false true))] (.bool x4.1) [(some (.cells [(.acc 2 0 1 x4.2.2.length true), (.int .i64 x4.2.1)] false false)), none, (some (.cells (F_B x4.2.2) false true))] ∧ (2 ≤ 3 ∧ (@Eq AV (.ptr (some (2, 0))) (.ptr (some (2, 0))) ∧ @Eq WH [(some (.cells [(.acc 3 0 1 x4.2.2.length true), (.int .i64 x4.2.1)] false false)), none, (some (.cells [(.ptr (some (0, 0)))] false false)), (some (.cells (F_B x4.2.2) false true))] [(some (.cells [(.acc 3 0 1 r.2.length true), (.int .i64 r.1)] false false)), none, (some (.cells [(.ptr (some (0, 0)))] false false)), (some (.cells (F_B r.2) false true))]))))) ∧ ((decide (x2.2 < (x1.length : Int))) = false → (@Eq AV (.ptr (some (2, 0))) (.ptr (some (2, 0))) ∧ @Eq WH [(some (.cells [(.acc 3 0 1 p_b1.length true), (.int .i64 p_d)] false false)), none, (some (.cells [(.ptr (some (0, 0)))] false false)), (some (.cells (F_B p_b1) false true))] [(some (.cells [(.acc 3 0 1 r.2.length true), (.int .i64 r.1)] false false)), none, (some (.cells [(.ptr (some (0, 0)))] false false)), (some (.cells (F_B r.2) false true))])))))))) := fun C => by kernel_rfl
  refine spec_of (fun _ _ h => by cases h) rfl atab_31 WF31_ok ((e _).mpr ⟨rfl, by decide, ?_⟩)
  unfold wal_Open_2 at h
  obtain ⟨q1, h⟩ := bget hx1 h
  refine ⟨s_disk_Disk_Bytes_2 (d + 4) q1, ?_⟩
  refine ⟨by decide, ?_⟩
  obtain ⟨q2, h⟩ := bget hx2 h
  refine ⟨s_frame_Read (d + 0) q2, ?_⟩
  refine ⟨by decide, ?_⟩
  refine ⟨fun hb => ?_, fun hb => ?_⟩
  · have h := cond_t hb h
    obtain ⟨q3, h⟩ := bget hx3 h
    refine ⟨wP_sl_h R_B q3, ?_⟩
    obtain ⟨q4, h⟩ := bget hx4 h
    refine ⟨s_disk_Disk_Swap_2 (d + 4) q4, ?_⟩
    refine ⟨by decide, ?_⟩
    obtain rfl := Option.some.inj h
    exact ⟨by wleaf, by wleaf⟩
  · have h := cond_f hb h
    obtain rfl := Option.some.inj h
    exact ⟨by wleaf, by wleaf⟩

/- (*osmosis/wal.Log).Records -/
def wal_Log_Records (p_b1 : Int) (p_b2 : List UInt8) : Option (List (List UInt8)) :=
  (disk_Disk_Bytes_2 p_b1 p_b2).bind fun (x1 : List UInt8) => (frame_Read x1).bind fun (x2 : List (List UInt8) × Int) => some x2.1

theorem s_wal_Log_Records (d : Nat) {p_b1 : Int} {p_b2 : List UInt8} {r : List (List UInt8)} (h : wal_Log_Records p_b1 p_b2 = some r) : Spec (wcalls atab (d + 7)) 36 [(.ptr (some (0, 0)))] [(some (.cells [(.ptr (some (1, 0)))] false false)), (some (.cells [(.acc 2 0 1 p_b2.length true), (.int .i64 p_b1)] false false)), (some (.cells (F_B p_b2) false true))] (l_LB r) [(some (.cells [(.ptr (some (1, 0)))] false false)), (some (.cells [(.acc 2 0 1 p_b2.length true), (.int .i64 p_b1)] false false)), (some (.cells (F_B p_b2) false true))] := by
  obtain ⟨x1, hx1⟩ : ∃ x : List UInt8, x = (disk_Disk_Bytes_2 p_b1 p_b2).getD default := ⟨_, rfl⟩
  obtain ⟨x2, hx2⟩ : ∃ x : List (List UInt8) × Int, x = (frame_Read x1).getD default := ⟨_, rfl⟩
  have e : ∀ C : ACalls, wBody C (fun _ => none) KK WF36 [(.ptr (some (0, 0)))] [(some (.cells [(.ptr (some (1, 0)))] false false)), (some (.cells [(.acc 2 0 1 p_b2.length true), (.int .i64 p_b1)] false false)), (some (.cells (F_B p_b2) false true))] (.call [] none [] (l_B x1) [(some (.cells [(.acc 1 0 1 p_b2.length true), (.int .i64 p_b1)] false false)), (some (.cells (F_B p_b2) false true))] (.call [] (some false) [] (.tuple [(l_LB x2.1), (.int .i64 x2.2)]) [] (.fin (some false) [] none))) (l_LB r) [(some (.cells [(.ptr (some (1, 0)))] false false)), (some (.cells [(.acc 2 0 1 p_b2.length true), (.int .i64 p_b1)] false false)), (some (.cells (F_B p_b2) false true))] = (1 = 1 ∧ 1 ≤ 15 ∧ (Spec C 50 [(.ptr (some (0, 0)))] [(some (.cells [(.acc 1 0 1 p_b2.length true), (.int .i64 p_b1)] false false)), (some (.cells (F_B p_b2) false true))] (l_B x1) [(some (.cells [(.acc 1 0 1 p_b2.length true), (.int .i64 p_b1)] false false)), (some (.cells (F_B p_b2) false true))] ∧ (2 ≤ 2 ∧ (Spec C 24 [(l_B x1)] [] (.tuple [(l_LB x2.1), (.int .i64 x2.2)]) [] ∧ (0 ≤ 0 ∧ (@Eq AV (l_LB x2.1) (l_LB r) ∧ @Eq WH [(some (.cells [(.ptr (some (1, 0)))] false false)), (some (.cells [(.acc 2 0 1 p_b2.length true), (.int .i64 p_b1)] false false)), (some (.cells (F_B p_b2) false true))] [(some (.cells [(.ptr (some (1, 0)))] false false)), (some (.cells [(.acc 2 0 1 p_b2.length true), (.int .i64 p_b1)] false false)), (some (.cells (F_B p_b2) false true))])))))) := fun C => by kernel_rfl
  refine spec_of (fun _ _ h => by cases h) rfl atab_36 WF36_ok ((e _).mpr ⟨rfl, by decide, ?_⟩)
  unfold wal_Log_Records at h
  obtain ⟨q1, h⟩ := bget hx1 h
  refine ⟨s_disk_Disk_Bytes_2 (d + 4) q1, ?_⟩
  refine ⟨by decide, ?_⟩
  obtain ⟨q2, h⟩ := bget hx2 h
  refine ⟨s_frame_Read (d + 0) q2, ?_⟩
  refine ⟨by decide, ?_⟩
  obtain rfl := Option.some.inj h
  exact ⟨by wleaf, by wleaf⟩

/- (*osmosis/disk.Disk).Size -/
def disk_Disk_Size (p_d : Int) (p_b1 : List UInt8) : Option (Int) :=
  some (p_b1.length : Int)

theorem s_disk_Disk_Size (d : Nat) {p_d : Int} {p_b1 : List UInt8} {r : Int} (h : disk_Disk_Size p_d p_b1 = some r) : Spec (wcalls atab (d + 1)) 39 [(.ptr (some (0, 0)))] [(some (.cells [(.acc 1 0 1 p_b1.length true), (.int .i64 p_d)] false false)), (some (.cells (F_B p_b1) false true))] (.int .i64 r) [(some (.cells [(.acc 1 0 1 p_b1.length true), (.int .i64 p_d)] false false)), (some (.cells (F_B p_b1) false true))] := by
  have e : ∀ C : ACalls, wBody C (fun _ => none) KK WF39 [(.ptr (some (0, 0)))] [(some (.cells [(.acc 1 0 1 p_b1.length true), (.int .i64 p_d)] false false)), (some (.cells (F_B p_b1) false true))] (.fin (some false) [] none) (.int .i64 r) [(some (.cells [(.acc 1 0 1 p_b1.length true), (.int .i64 p_d)] false false)), (some (.cells (F_B p_b1) false true))] = (1 = 1 ∧ 1 ≤ 8 ∧ (@Eq AV (.int .i64 (p_b1.length : Int)) (.int .i64 r) ∧ @Eq WH [(some (.cells [(.acc 1 0 1 p_b1.length true), (.int .i64 p_d)] false false)), (some (.cells (F_B p_b1) false true))] [(some (.cells [(.acc 1 0 1 p_b1.length true), (.int .i64 p_d)] false false)), (some (.cells (F_B p_b1) false true))])) := fun C => by kernel_rfl
  refine spec_of (fun _ _ h => by cases h) rfl atab_39 WF39_ok ((e _).mpr ⟨rfl, by decide, ?_⟩)
  unfold disk_Disk_Size at h
  obtain rfl := Option.some.inj h
  exact ⟨by wleaf, by wleaf⟩

/- osmosis/osmosislaw5.known -/
def fin_osmosislaw5_known_J0 (x2 : Int × List UInt8) : Unit → Ex × Fast × WH := fun e => (.normal, [(1, (.ptr (some (0, 0)))), (2, (.ptr (some (1, 0))))], [(some (.cells [(.acc 2 0 1 x2.2.length true), (.int .i64 x2.1)] false false)), (some (.cells [(.ptr (some (0, 0)))] false false)), (some (.cells (F_B x2.2) false true))])
def osmosislaw5_known_J0 (x2 : Int × List UInt8) : Option (Unit) :=
  some ()
theorem s_osmosislaw5_known_J0 (d : Nat) {x2 : Int × List UInt8} {r : Unit} (h : osmosislaw5_known_J0 x2 = some r) : RunS (bexec (wcalls atab (d + 0)) KK 58 WJ32_bbba) 0 [(1, (.ptr (some (0, 0)))), (2, (.ptr (some (1, 0))))] [(some (.cells [(.acc 2 0 1 x2.2.length true), (.int .i64 x2.1)] false false)), (some (.cells [(.ptr (some (0, 0)))] false false)), (some (.cells (F_B x2.2) false true))] (fin_osmosislaw5_known_J0 x2 r).1 (fin_osmosislaw5_known_J0 x2 r).2.1 (fin_osmosislaw5_known_J0 x2 r).2.2 := by
  have e : ∀ C : ACalls, wCode C (fun _ => none) KK 58 0 WJ32_bbba [(1, (.ptr (some (0, 0)))), (2, (.ptr (some (1, 0))))] [(some (.cells [(.acc 2 0 1 x2.2.length true), (.int .i64 x2.1)] false false)), (some (.cells [(.ptr (some (0, 0)))] false false)), (some (.cells (F_B x2.2) false true))] (.en [1, 2] [none, none] [] []) (fin_osmosislaw5_known_J0 x2 r) = (.normal = (fin_osmosislaw5_known_J0 x2 r).1 ∧ [(1, (.ptr (some (0, 0)))), (2, (.ptr (some (1, 0))))] = (fin_osmosislaw5_known_J0 x2 r).2.1 ∧ [(some (.cells [(.acc 2 0 1 x2.2.length true), (.int .i64 x2.1)] false false)), (some (.cells [(.ptr (some (0, 0)))] false false)), (some (.cells (F_B x2.2) false true))] = (fin_osmosislaw5_known_J0 x2 r).2.2) := fun C => by kernel_rfl
  refine runS_of (fun _ _ h => by cases h) WJ32_bbba_ok (Nat.le_of_ble_eq_true rfl) ((e _).mpr ?_)
  unfold osmosislaw5_known_J0 at h
  obtain rfl := Option.some.inj h
  exact ⟨rfl, by first | rfl | (simp only [roundX, zipKeep, fin_osmosislaw5_known_J0, List.length_set, List.length_append, List.length_replicate, List.length_cons, List.length_nil, Nat.add_zero, Nat.zero_add]; done) | simp [roundX, zipKeep, fin_osmosislaw5_known_J0], by first | rfl | (simp only [roundX, zipKeep, fin_osmosislaw5_known_J0, List.length_set, List.length_append, List.length_replicate, List.length_cons, List.length_nil, Nat.add_zero, Nat.zero_add]; done) | simp [roundX, zipKeep, fin_osmosislaw5_known_J0]⟩

def osmosislaw5_known  : Option (Bool) :=
  (disk_New).bind fun (x1 : Int) => (wal_Open x1).bind fun (x2 : Int × List UInt8) => (osmosislaw5_known_J0 x2).bind fun (x3 : Unit) => (wal_Log_Add ([[(97 : UInt8)]]) x2.1 x2.2).bind fun (x4 : Bool × List UInt8) => (disk_Disk_Sync x2.1 x4.2).bind fun (x5 : Int × Int) => (wal_Log_Add ([[(98 : UInt8)]]) x5.2 x4.2).bind fun (x6 : Bool × List UInt8) => (disk_Disk_Crash 2 x5.2 x6.2).bind fun (x7 : Int × Int × List UInt8) => (wal_Open_2 x7.2.1 x7.2.2).bind fun (x8 : Int × List UInt8) => (wal_Log_Records x8.1 x8.2).bind fun (x9 : List (List UInt8)) => cond ((x9.length : Int) == 1) ((getI x9 0).bind fun (x10 : List UInt8) => cond (x10 == [97]) ((disk_Disk_Size x8.1 x8.2).bind fun (x11 : Int) => some (x11 == 10)) (some false)) (some false)

theorem s_osmosislaw5_known (d : Nat)  {r : Bool} (h : osmosislaw5_known = some r) : Spec (wcalls atab (d + 8)) 32 [] [] (.bool r) [] := by
  obtain ⟨x1, hx1⟩ : ∃ x : Int, x = (disk_New).getD default := ⟨_, rfl⟩
  obtain ⟨x2, hx2⟩ : ∃ x : Int × List UInt8, x = (wal_Open x1).getD default := ⟨_, rfl⟩
  obtain ⟨x3, hx3⟩ : ∃ x : Unit, x = (osmosislaw5_known_J0 x2).getD default := ⟨_, rfl⟩
  obtain ⟨x4, hx4⟩ : ∃ x : Bool × List UInt8, x = (wal_Log_Add ([[(97 : UInt8)]]) x2.1 x2.2).getD default := ⟨_, rfl⟩
  obtain ⟨x5, hx5⟩ : ∃ x : Int × Int, x = (disk_Disk_Sync x2.1 x4.2).getD default := ⟨_, rfl⟩
  obtain ⟨x6, hx6⟩ : ∃ x : Bool × List UInt8, x = (wal_Log_Add ([[(98 : UInt8)]]) x5.2 x4.2).getD default := ⟨_, rfl⟩
  obtain ⟨x7, hx7⟩ : ∃ x : Int × Int × List UInt8, x = (disk_Disk_Crash 2 x5.2 x6.2).getD default := ⟨_, rfl⟩
  obtain ⟨x8, hx8⟩ : ∃ x : Int × List UInt8, x = (wal_Open_2 x7.2.1 x7.2.2).getD default := ⟨_, rfl⟩
  obtain ⟨x9, hx9⟩ : ∃ x : List (List UInt8), x = (wal_Log_Records x8.1 x8.2).getD default := ⟨_, rfl⟩
  obtain ⟨x10, hx10⟩ : ∃ x : List UInt8, x = (getI x9 0).getD default := ⟨_, rfl⟩
  obtain ⟨x11, hx11⟩ : ∃ x : Int, x = (disk_Disk_Size x8.1 x8.2).getD default := ⟨_, rfl⟩
  have e : ∀ C : ACalls, wBody C (fun _ => none) KK WF32 [] [] (.call [] (some false) [] (.ptr (some (0, 0))) [(some (.cells [(.slice none 1 0 0 true), (.int .i64 x1)] false false))] (.call [] none [] (.ptr (some (1, 0))) [(some (.cells [(.acc 2 0 1 x2.2.length true), (.int .i64 x2.1)] false false)), (some (.cells [(.ptr (some (0, 0)))] false false)), (some (.cells (F_B x2.2) false true))] (.jn [1, 2] [none, none] [] [] .normal [(1, (.ptr (some (0, 0)))), (2, (.ptr (some (1, 0))))] [(some (.cells [(.acc 2 0 1 x2.2.length true), (.int .i64 x2.1)] false false)), (some (.cells [(.ptr (some (0, 0)))] false false)), (some (.cells (F_B x2.2) false true))] (.call [] none [] (.bool x4.1) [(some (.cells [(.ptr (some (1, 0)))] false false)), (some (.cells [(.acc 3 0 1 x4.2.length true), (.int .i64 x2.1)] false false)), none, (some (.cells (F_B x4.2) false true))] (.call [] none [] (.int .i64 x5.1) [(some (.cells [(.acc 1 0 1 x4.2.length true), (.int .i64 x5.2)] false false)), (some (.cells (F_B x4.2) false true))] (.call [] none [] (.bool x6.1) [(some (.cells [(.ptr (some (1, 0)))] false false)), (some (.cells [(.acc 3 0 1 x6.2.length true), (.int .i64 x5.2)] false false)), none, (some (.cells (F_B x6.2) false true))] (.call [] none [] (.int .i64 x7.1) [(some (.cells [(.acc 2 0 1 x7.2.2.length true), (.int .i64 x7.2.1)] false false)), none, (some (.cells (F_B x7.2.2) false true))] (.call [] none [] (.ptr (some (2, 0))) [(some (.cells [(.acc 3 0 1 x8.2.length true), (.int .i64 x8.1)] false false)), none, (some (.cells [(.ptr (some (0, 0)))] false false)), (some (.cells (F_B x8.2) false true))] (.call [] none [] (l_LB x9) [(some (.cells [(.ptr (some (1, 0)))] false false)), (some (.cells [(.acc 2 0 1 x8.2.length true), (.int .i64 x8.1)] false false)), (some (.cells (F_B x8.2) false true))] (.br 43 (.v 45 (.elem ([(l_B x10)] ++ F_LB (x9.drop ((0 : Int).toNat + 1)))) (.v 47 (.str x10) (.br 50 (.call [] none [] (.int .i64 x11) [(some (.cells [(.acc 1 0 1 x8.2.length true), (.int .i64 x8.1)] false false)), (some (.cells (F_B x8.2) false true))] (.fin (some false) [] none)) (.fin (some false) [] none)))) (.fin (some false) [] none))))))))))) (.bool r) [] = (0 = 0 ∧ 0 ≤ 58 ∧ (Spec C 30 [] [] (.ptr (some (0, 0))) [(some (.cells [(.slice none 1 0 0 true), (.int .i64 x1)] false false))] ∧ (0 ≤ 1 ∧ (Spec C 31 [(.ptr (some (0, 0)))] [(some (.cells [(.slice none 1 0 0 true), (.int .i64 x1)] false false))] (.ptr (some (1, 0))) [(some (.cells [(.acc 2 0 1 x2.2.length true), (.int .i64 x2.1)] false false)), (some (.cells [(.ptr (some (0, 0)))] false false)), (some (.cells (F_B x2.2) false true))] ∧ (1 ≤ 3 ∧ (RunS (bexec C KK 58 WJ32_bbba) 0 [(1, (.ptr (some (0, 0)))), (2, (.ptr (some (1, 0))))] [(some (.cells [(.acc 2 0 1 x2.2.length true), (.int .i64 x2.1)] false false)), (some (.cells [(.ptr (some (0, 0)))] false false)), (some (.cells (F_B x2.2) false true))] .normal [(1, (.ptr (some (0, 0)))), (2, (.ptr (some (1, 0))))] [(some (.cells [(.acc 2 0 1 x2.2.length true), (.int .i64 x2.1)] false false)), (some (.cells [(.ptr (some (0, 0)))] false false)), (some (.cells (F_B x2.2) false true))] ∧ (Spec C 35 [(.ptr (some (0, 0))), (l_LB ([[(97 : UInt8)]]))] [(some (.cells [(.ptr (some (1, 0)))] false false)), (some (.cells [(.acc 2 0 1 x2.2.length true), (.int .i64 x2.1)] false false)), (some (.cells (F_B x2.2) false true))] (.bool x4.1) [(some (.cells [(.ptr (some (1, 0)))] false false)), (some (.cells [(.acc 3 0 1 x4.2.length true), (.int .i64 x2.1)] false false)), none, (some (.cells (F_B x4.2) false true))] ∧ (3 ≤ 4 ∧ (Spec C 38 [(.ptr (some (0, 0)))] [(some (.cells [(.acc 1 0 1 x4.2.length true), (.int .i64 x2.1)] false false)), (some (.cells (F_B x4.2) false true))] (.int .i64 x5.1) [(some (.cells [(.acc 1 0 1 x4.2.length true), (.int .i64 x5.2)] false false)), (some (.cells (F_B x4.2) false true))] ∧ (2 ≤ 2 ∧ (Spec C 35 [(.ptr (some (0, 0))), (l_LB ([[(98 : UInt8)]]))] [(some (.cells [(.ptr (some (1, 0)))] false false)), (some (.cells [(.acc 2 0 1 x4.2.length true), (.int .i64 x5.2)] false false)), (some (.cells (F_B x4.2) false true))] (.bool x6.1) [(some (.cells [(.ptr (some (1, 0)))] false false)), (some (.cells [(.acc 3 0 1 x6.2.length true), (.int .i64 x5.2)] false false)), none, (some (.cells (F_B x6.2) false true))] ∧ (3 ≤ 4 ∧ (Spec C 41 [(.ptr (some (0, 0))), (.int .i64 2)] [(some (.cells [(.acc 1 0 1 x6.2.length true), (.int .i64 x5.2)] false false)), (some (.cells (F_B x6.2) false true))] (.int .i64 x7.1) [(some (.cells [(.acc 2 0 1 x7.2.2.length true), (.int .i64 x7.2.1)] false false)), none, (some (.cells (F_B x7.2.2) false true))] ∧ (2 ≤ 3 ∧ (Spec C 31 [(.ptr (some (0, 0)))] [(some (.cells [(.acc 1 0 1 x7.2.2.length true), (.int .i64 x7.2.1)] false false)), (some (.cells (F_B x7.2.2) false true))] (.ptr (some (2, 0))) [(some (.cells [(.acc 3 0 1 x8.2.length true), (.int .i64 x8.1)] false false)), none, (some (.cells [(.ptr (some (0, 0)))] false false)), (some (.cells (F_B x8.2) false true))] ∧ (2 ≤ 4 ∧ (Spec C 36 [(.ptr (some (0, 0)))] [(some (.cells [(.ptr (some (1, 0)))] false false)), (some (.cells [(.acc 2 0 1 x8.2.length true), (.int .i64 x8.1)] false false)), (some (.cells (F_B x8.2) false true))] (l_LB x9) [(some (.cells [(.ptr (some (1, 0)))] false false)), (some (.cells [(.acc 2 0 1 x8.2.length true), (.int .i64 x8.1)] false false)), (some (.cells (F_B x8.2) false true))] ∧ (3 ≤ 3 ∧ ((((x9.length : Int) == 1) = true → (wP (.idxSlice 1 (.c (l_LB x9)) (.c (.int .i64 0))) = some (.elem ([(l_B x10)] ++ F_LB (x9.drop ((0 : Int).toNat + 1)))) ∧ ((toBytes (F_B x10)).map AV.str = some (.str x10) ∧ (((x10 == [97]) = true → (Spec C 39 [(.ptr (some (0, 0)))] [(some (.cells [(.acc 1 0 1 x8.2.length true), (.int .i64 x8.1)] false false)), (some (.cells (F_B x8.2) false true))] (.int .i64 x11) [(some (.cells [(.acc 1 0 1 x8.2.length true), (.int .i64 x8.1)] false false)), (some (.cells (F_B x8.2) false true))] ∧ (2 ≤ 2 ∧ (@Eq AV (.bool (x11 == 10)) (.bool r) ∧ @Eq WH [] [])))) ∧ ((x10 == [97]) = false → (@Eq AV (.bool false) (.bool r) ∧ @Eq WH [] [])))))) ∧ (((x9.length : Int) == 1) = false → (@Eq AV (.bool false) (.bool r) ∧ @Eq WH [] []))))))))))))))))))))) := fun C => by kernel_rfl
  refine spec_of (fun _ _ h => by cases h) rfl atab_32 WF32_ok ((e _).mpr ⟨rfl, by decide, ?_⟩)
  unfold osmosislaw5_known at h
  obtain ⟨q1, h⟩ := bget hx1 h
  refine ⟨s_disk_New (d + 6) q1, ?_⟩
  refine ⟨by decide, ?_⟩
  obtain ⟨q2, h⟩ := bget hx2 h
  refine ⟨s_wal_Open (d + 0) q2, ?_⟩
  refine ⟨by decide, ?_⟩
  obtain ⟨q3, h⟩ := bget hx3 h
  refine ⟨s_osmosislaw5_known_J0 (d + 7) q3, ?_⟩
  obtain ⟨q4, h⟩ := bget hx4 h
  refine ⟨s_wal_Log_Add (d + 2) q4, ?_⟩
  refine ⟨by decide, ?_⟩
  obtain ⟨q5, h⟩ := bget hx5 h
  refine ⟨s_disk_Disk_Sync (d + 6) q5, ?_⟩
  refine ⟨by decide, ?_⟩
  obtain ⟨q6, h⟩ := bget hx6 h
  refine ⟨s_wal_Log_Add (d + 2) q6, ?_⟩
  refine ⟨by decide, ?_⟩
  obtain ⟨q7, h⟩ := bget hx7 h
  refine ⟨s_disk_Disk_Crash (d + 6) q7, ?_⟩
  refine ⟨by decide, ?_⟩
  obtain ⟨q8, h⟩ := bget hx8 h
  refine ⟨s_wal_Open_2 (d + 0) q8, ?_⟩
  refine ⟨by decide, ?_⟩
  obtain ⟨q9, h⟩ := bget hx9 h
  refine ⟨s_wal_Log_Records (d + 0) q9, ?_⟩
  refine ⟨by decide, ?_⟩
  refine ⟨fun hb => ?_, fun hb => ?_⟩
  · have h := cond_t hb h
    obtain ⟨q10, h⟩ := bget hx10 h
    refine ⟨wP_idx R_LB q10, ?_⟩
    refine ⟨by rw [show F_B x10 = (x10).map byteC from rfl, toBytes_map]; rfl, ?_⟩
    refine ⟨fun hb => ?_, fun hb => ?_⟩
    · have h := cond_t hb h
      obtain ⟨q11, h⟩ := bget hx11 h
      refine ⟨s_disk_Disk_Size (d + 6) q11, ?_⟩
      refine ⟨by decide, ?_⟩
      obtain rfl := Option.some.inj h
      exact ⟨by wleaf, by wleaf⟩
    · have h := cond_f hb h
      obtain rfl := Option.some.inj h
      exact ⟨by wleaf, by wleaf⟩
  · have h := cond_f hb h
    obtain rfl := Option.some.inj h
    exact ⟨by wleaf, by wleaf⟩

end Go.Proofs.Ytachollgbplikaa
