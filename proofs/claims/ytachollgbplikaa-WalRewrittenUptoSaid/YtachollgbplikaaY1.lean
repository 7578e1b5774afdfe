/- Functions as Lean functions, part 1. -/
import Derived.Test.YtachollgbplikaaXt
import Derived.Test.YtachollgbplikaaXs
set_option linter.all false
set_option maxRecDepth 100000
namespace Go.Proofs.Ytachollgbplikaa
/- osmosis/nums.Put -/
def fin_nums_Put_J0 (x11 : Int) (s10 : Int × List UInt8) (n : List Int) : Unit ⊕ Unit → Ex × Fast × WH := fun
  | .inl e => (.ret, [(4, (.slice none 1 0 0 true))], [])
  | .inr e => (.normal, [(5, (.acc 0 0 1 s10.2.length true)), (7, (.int .i64 x11)), (10, (l_I n)), (11, (.int .i64 (n.length : Int))), (12, (.int .i64 s10.1))], [(some (.cells (F_B s10.2) false true))])
def nums_Put_J0 (x11 : Int) (s10 : Int × List UInt8) (n : List Int) : Option (Unit ⊕ Unit) :=
  cond (decide (x11 < 0)) (some (.inl ())) (cond (decide (x11 > 4611686018427387903)) (some (.inl ())) (some (.inr ())))
theorem s_nums_Put_J0 (d : Nat) {x11 : Int} {s10 : Int × List UInt8} {n : List Int} {r : Unit ⊕ Unit} (h : nums_Put_J0 x11 s10 n = some r) : RunS (bexec (wcalls atab (d + 0)) KK 41 WJ82_bbabklbbakba) 0 [(5, (.acc 0 0 1 s10.2.length true)), (7, (.int .i64 x11)), (10, (l_I n)), (11, (.int .i64 (n.length : Int))), (12, (.int .i64 s10.1))] [(some (.cells (F_B s10.2) false true))] (fin_nums_Put_J0 x11 s10 n r).1 (fin_nums_Put_J0 x11 s10 n r).2.1 (fin_nums_Put_J0 x11 s10 n r).2.2 := by
  have e : ∀ C : ACalls, wCode C (fun _ => none) KK 41 0 WJ82_bbabklbbakba [(5, (.acc 0 0 1 s10.2.length true)), (7, (.int .i64 x11)), (10, (l_I n)), (11, (.int .i64 (n.length : Int))), (12, (.int .i64 s10.1))] [(some (.cells (F_B s10.2) false true))] (.br 18 (.en [4] [none] [] []) (.br 21 (.en [4] [none] [] []) (.en [5, 7, 10, 11, 12] [none, none, none, none, none] [] []))) (fin_nums_Put_J0 x11 s10 n r) = (((decide (x11 < 0)) = true → (.ret = (fin_nums_Put_J0 x11 s10 n r).1 ∧ [(4, (.slice none 1 0 0 true))] = (fin_nums_Put_J0 x11 s10 n r).2.1 ∧ [] = (fin_nums_Put_J0 x11 s10 n r).2.2)) ∧ ((decide (x11 < 0)) = false → (((decide (x11 > 4611686018427387903)) = true → (.ret = (fin_nums_Put_J0 x11 s10 n r).1 ∧ [(4, (.slice none 1 0 0 true))] = (fin_nums_Put_J0 x11 s10 n r).2.1 ∧ [] = (fin_nums_Put_J0 x11 s10 n r).2.2)) ∧ ((decide (x11 > 4611686018427387903)) = false → (.normal = (fin_nums_Put_J0 x11 s10 n r).1 ∧ [(5, (.acc 0 0 1 s10.2.length true)), (7, (.int .i64 x11)), (10, (l_I n)), (11, (.int .i64 (n.length : Int))), (12, (.int .i64 s10.1))] = (fin_nums_Put_J0 x11 s10 n r).2.1 ∧ [(some (.cells (F_B s10.2) false true))] = (fin_nums_Put_J0 x11 s10 n r).2.2))))) := fun C => by kernel_rfl
  refine runS_of (fun _ _ h => by cases h) WJ82_bbabklbbakba_ok (Nat.le_of_ble_eq_true rfl) ((e _).mpr ?_)
  unfold nums_Put_J0 at h
  refine ⟨fun hb => ?_, fun hb => ?_⟩
  · have h := cond_t hb h
    obtain rfl := Option.some.inj h
    exact ⟨rfl, by first | rfl | (simp only [roundX, zipKeep, fin_nums_Put_J0, List.length_set, List.length_append, List.length_replicate, List.length_cons, List.length_nil, Nat.add_zero, Nat.zero_add]; done) | simp [roundX, zipKeep, fin_nums_Put_J0], by first | rfl | (simp only [roundX, zipKeep, fin_nums_Put_J0, List.length_set, List.length_append, List.length_replicate, List.length_cons, List.length_nil, Nat.add_zero, Nat.zero_add]; done) | simp [roundX, zipKeep, fin_nums_Put_J0]⟩
  · have h := cond_f hb h
    refine ⟨fun hb => ?_, fun hb => ?_⟩
    · have h := cond_t hb h
      obtain rfl := Option.some.inj h
      exact ⟨rfl, by first | rfl | (simp only [roundX, zipKeep, fin_nums_Put_J0, List.length_set, List.length_append, List.length_replicate, List.length_cons, List.length_nil, Nat.add_zero, Nat.zero_add]; done) | simp [roundX, zipKeep, fin_nums_Put_J0], by first | rfl | (simp only [roundX, zipKeep, fin_nums_Put_J0, List.length_set, List.length_append, List.length_replicate, List.length_cons, List.length_nil, Nat.add_zero, Nat.zero_add]; done) | simp [roundX, zipKeep, fin_nums_Put_J0]⟩
    · have h := cond_f hb h
      obtain rfl := Option.some.inj h
      exact ⟨rfl, by first | rfl | (simp only [roundX, zipKeep, fin_nums_Put_J0, List.length_set, List.length_append, List.length_replicate, List.length_cons, List.length_nil, Nat.add_zero, Nat.zero_add]; done) | simp [roundX, zipKeep, fin_nums_Put_J0], by first | rfl | (simp only [roundX, zipKeep, fin_nums_Put_J0, List.length_set, List.length_append, List.length_replicate, List.length_cons, List.length_nil, Nat.add_zero, Nat.zero_add]; done) | simp [roundX, zipKeep, fin_nums_Put_J0]⟩

def st_nums_Put_L1 (n : List Int) (s10 : Int × List UInt8) (s15 : Int × List UInt8) : List AV × WH := ([(.acc 0 0 1 s15.2.length true), (.int .i64 s15.1), (l_I n), (.int .i64 (n.length : Int)), (.int .i64 s10.1)], [(some (.cells (F_B s15.2) false true))])
def fin_nums_Put_L1 (n : List Int) (s10 : Int × List UInt8) : (Int × List UInt8) → Ex × Fast × WH := fun e => ((.exit 2), [(5, (.acc 0 0 1 e.2.length true)), (7, (.int .i64 e.1)), (10, (l_I n)), (11, (.int .i64 (n.length : Int))), (12, (.int .i64 s10.1))], [(some (.cells (F_B e.2) false true))])
def nums_Put_L1_s (n : List Int) (s10 : Int × List UInt8) (s15 : Int × List UInt8) : Option ((Int × List UInt8) ⊕ ((Int × List UInt8))) :=
  cond (decide (s15.1 > 127)) (gd (fitsB 1 (s15.2 ++ [(u8w (orI .i64 (andI .i64 s15.1 127) 128))]).length) (some (.inl ((shrV .i64 s15.1 7), (s15.2 ++ [(u8w (orI .i64 (andI .i64 s15.1 127) 128))]))))) (some (.inr (s15.1, s15.2)))
def nums_Put_L1 (n : List Int) (s10 : Int × List UInt8) (s15 : Int × List UInt8) : Option ((Int × List UInt8)) := loopX (nums_Put_L1_s n s10) KK s15
theorem b_nums_Put_L1 (d : Nat) {n : List Int} {s10 : Int × List UInt8} {s15 : Int × List UInt8} {r : (Int × List UInt8) ⊕ ((Int × List UInt8))} (h : nums_Put_L1_s n s10 s15 = some r) : RunS (bexec (wcalls atab (d + 0)) KK 41 WB82_1) 0 [(5, (.acc 0 0 1 s15.2.length true)), (7, (.int .i64 s15.1)), (10, (l_I n)), (11, (.int .i64 (n.length : Int))), (12, (.int .i64 s10.1))] [(some (.cells (F_B s15.2) false true))] (roundX [5, 7, 10, 11, 12] (st_nums_Put_L1 n s10) (fin_nums_Put_L1 n s10) r).1 (roundX [5, 7, 10, 11, 12] (st_nums_Put_L1 n s10) (fin_nums_Put_L1 n s10) r).2.1 (roundX [5, 7, 10, 11, 12] (st_nums_Put_L1 n s10) (fin_nums_Put_L1 n s10) r).2.2 := by
  have e : ∀ C : ACalls, wCode C (fun _ => none) KK 41 0 WB82_1 [(5, (.acc 0 0 1 s15.2.length true)), (7, (.int .i64 s15.1)), (10, (l_I n)), (11, (.int .i64 (n.length : Int))), (12, (.int .i64 s10.1))] [(some (.cells (F_B s15.2) false true))] (.br 23 (.v 28 (.int .u8 ((u8w (orI .i64 (andI .i64 s15.1 127) 128)).toNat : Int)) (.ap 30 (s15.2 ++ [(u8w (orI .i64 (andI .i64 s15.1 127) 128))]).length (F_B (s15.2 ++ [(u8w (orI .i64 (andI .i64 s15.1 127) 128))])) (.en [5, 7, 10, 11, 12] [none, none, none, none, none] [] []))) (.en [5, 7, 10, 11, 12] [none, none, none, none, none] [] [])) (roundX [5, 7, 10, 11, 12] (st_nums_Put_L1 n s10) (fin_nums_Put_L1 n s10) r) = (((decide (s15.1 > 127)) = true → (@Eq (Option AV) (some (.int .u8 (IntKind.u8.wrap (orI .i64 (andI .i64 s15.1 127) 128)))) (some (.int .u8 ((u8w (orI .i64 (andI .i64 s15.1 127) 128)).toNat : Int))) ∧ (s15.2.length + 1 = (s15.2 ++ [(u8w (orI .i64 (andI .i64 s15.1 127) 128))]).length ∧ (F_B s15.2 ++ F_B ([(u8w (orI .i64 (andI .i64 s15.1 127) 128))]) = F_B (s15.2 ++ [(u8w (orI .i64 (andI .i64 s15.1 127) 128))]) ∧ (fitsB 1 (s15.2 ++ [(u8w (orI .i64 (andI .i64 s15.1 127) 128))]).length = true ∧ (.normal = (roundX [5, 7, 10, 11, 12] (st_nums_Put_L1 n s10) (fin_nums_Put_L1 n s10) r).1 ∧ [(5, (.acc 0 0 1 ((s15.2 ++ [(u8w (orI .i64 (andI .i64 s15.1 127) 128))]).length) true)), (7, (.int .i64 (shrV .i64 s15.1 7))), (10, (l_I n)), (11, (.int .i64 (n.length : Int))), (12, (.int .i64 s10.1))] = (roundX [5, 7, 10, 11, 12] (st_nums_Put_L1 n s10) (fin_nums_Put_L1 n s10) r).2.1 ∧ [(some (.cells (F_B (s15.2 ++ [(u8w (orI .i64 (andI .i64 s15.1 127) 128))])) false true))] = (roundX [5, 7, 10, 11, 12] (st_nums_Put_L1 n s10) (fin_nums_Put_L1 n s10) r).2.2)))))) ∧ ((decide (s15.1 > 127)) = false → ((.exit 2) = (roundX [5, 7, 10, 11, 12] (st_nums_Put_L1 n s10) (fin_nums_Put_L1 n s10) r).1 ∧ [(5, (.acc 0 0 1 s15.2.length true)), (7, (.int .i64 s15.1)), (10, (l_I n)), (11, (.int .i64 (n.length : Int))), (12, (.int .i64 s10.1))] = (roundX [5, 7, 10, 11, 12] (st_nums_Put_L1 n s10) (fin_nums_Put_L1 n s10) r).2.1 ∧ [(some (.cells (F_B s15.2) false true))] = (roundX [5, 7, 10, 11, 12] (st_nums_Put_L1 n s10) (fin_nums_Put_L1 n s10) r).2.2))) := fun C => by kernel_rfl
  refine runS_of (fun _ _ h => by cases h) WB82_1_ok (Nat.le_of_ble_eq_true rfl) ((e _).mpr ?_)
  unfold nums_Put_L1_s at h
  refine ⟨fun hb => ?_, fun hb => ?_⟩
  · have h := cond_t hb h
    refine ⟨u8_w _, ?_⟩
    obtain ⟨q16, h⟩ := gd_some h
    refine ⟨by simp, ?_⟩
    refine ⟨(Row.app R_B _ _).symm, ?_⟩
    refine ⟨q16, ?_⟩
    obtain rfl := Option.some.inj h
    exact ⟨rfl, by first | rfl | (simp only [roundX, zipKeep, fin_nums_Put_L1, st_nums_Put_L1, List.length_set, List.length_append, List.length_replicate, List.length_cons, List.length_nil, Nat.add_zero, Nat.zero_add]; done) | simp [roundX, zipKeep, fin_nums_Put_L1, st_nums_Put_L1], by first | rfl | (simp only [roundX, zipKeep, fin_nums_Put_L1, st_nums_Put_L1, List.length_set, List.length_append, List.length_replicate, List.length_cons, List.length_nil, Nat.add_zero, Nat.zero_add]; done) | simp [roundX, zipKeep, fin_nums_Put_L1, st_nums_Put_L1]⟩
  · have h := cond_f hb h
    obtain rfl := Option.some.inj h
    exact ⟨rfl, by first | rfl | (simp only [roundX, zipKeep, fin_nums_Put_L1, st_nums_Put_L1, List.length_set, List.length_append, List.length_replicate, List.length_cons, List.length_nil, Nat.add_zero, Nat.zero_add]; done) | simp [roundX, zipKeep, fin_nums_Put_L1, st_nums_Put_L1], by first | rfl | (simp only [roundX, zipKeep, fin_nums_Put_L1, st_nums_Put_L1, List.length_set, List.length_append, List.length_replicate, List.length_cons, List.length_nil, Nat.add_zero, Nat.zero_add]; done) | simp [roundX, zipKeep, fin_nums_Put_L1, st_nums_Put_L1]⟩
theorem s_nums_Put_L1 (d : Nat) {n : List Int} {s10 : Int × List UInt8} {s15 : Int × List UInt8} {r : (Int × List UInt8)} (h : nums_Put_L1 n s10 s15 = some r) : RunS (bloop (bexec (wcalls atab (d + 0)) KK 41 WB82_1) [5, 7, 10, 11, 12] KK) 0 [(5, (.acc 0 0 1 s15.2.length true)), (7, (.int .i64 s15.1)), (10, (l_I n)), (11, (.int .i64 (n.length : Int))), (12, (.int .i64 s10.1))] [(some (.cells (F_B s15.2) false true))] (fin_nums_Put_L1 n s10 r).1 (fin_nums_Put_L1 n s10 r).2.1 (fin_nums_Put_L1 n s10 r).2.2 :=
  loop_of (st := st_nums_Put_L1 n s10) (fin := fin_nums_Put_L1 n s10) (step := nums_Put_L1_s n s10) (fun e => by (intro h; cases h)) (fun s x h => b_nums_Put_L1 d h) KK s15 r h

def st_nums_Put_L2 (n : List Int) (s10 : Int × List UInt8) : List AV × WH := ([(.acc 0 0 1 s10.2.length true), (l_I n), (.int .i64 (n.length : Int)), (.int .i64 s10.1)], [(some (.cells (F_B s10.2) false true))])
def fin_nums_Put_L2 (n : List Int) : Unit ⊕ (List UInt8) → Ex × Fast × WH := fun
  | .inl e => (.ret, [(4, (.slice none 1 0 0 true))], [])
  | .inr e => ((.exit 0), [(5, (.acc 0 0 1 e.length true))], [(some (.cells (F_B e) false true))])
def nums_Put_L2_s (n : List Int) (s10 : Int × List UInt8) : Option ((Int × List UInt8) ⊕ (Unit ⊕ (List UInt8))) :=
  cond (decide (s10.1 < (n.length : Int))) ((getI n s10.1).bind fun (x11 : Int) => (nums_Put_J0 x11 s10 n).bind fun (x12 : Unit ⊕ Unit) => cond (isL x12) (some (.inr (.inl ()))) ((nums_Put_L1 n s10 (x11, s10.2)).bind fun (x17 : (Int × List UInt8)) => gd (fitsB 1 (x17.2 ++ [(u8w x17.1)]).length) (some (.inl ((IntKind.i64.wrap (s10.1 + 1)), (x17.2 ++ [(u8w x17.1)])))))) (some (.inr (.inr s10.2)))
def nums_Put_L2 (n : List Int) (s10 : Int × List UInt8) : Option (Unit ⊕ (List UInt8)) := loopX (nums_Put_L2_s n) KK s10
theorem b_nums_Put_L2 (d : Nat) {n : List Int} {s10 : Int × List UInt8} {r : (Int × List UInt8) ⊕ (Unit ⊕ (List UInt8))} (h : nums_Put_L2_s n s10 = some r) : RunS (bexec (wcalls atab (d + 0)) KK 41 WB82_0) 0 [(5, (.acc 0 0 1 s10.2.length true)), (10, (l_I n)), (11, (.int .i64 (n.length : Int))), (12, (.int .i64 s10.1))] [(some (.cells (F_B s10.2) false true))] (roundX [5, 10, 11, 12] (st_nums_Put_L2 n) (fin_nums_Put_L2 n) r).1 (roundX [5, 10, 11, 12] (st_nums_Put_L2 n) (fin_nums_Put_L2 n) r).2.1 (roundX [5, 10, 11, 12] (st_nums_Put_L2 n) (fin_nums_Put_L2 n) r).2.2 := by
  obtain ⟨x11, hx11⟩ : ∃ x : Int, x = (getI n s10.1).getD default := ⟨_, rfl⟩
  obtain ⟨x12, hx12⟩ : ∃ x : Unit ⊕ Unit, x = (nums_Put_J0 x11 s10 n).getD default := ⟨_, rfl⟩
  obtain ⟨x17, hx17⟩ : ∃ x : (Int × List UInt8), x = (nums_Put_L1 n s10 (x11, s10.2)).getD default := ⟨_, rfl⟩
  have e : ∀ C : ACalls, wCode C (fun _ => none) KK 41 0 WB82_0 [(5, (.acc 0 0 1 s10.2.length true)), (10, (l_I n)), (11, (.int .i64 (n.length : Int))), (12, (.int .i64 s10.1))] [(some (.cells (F_B s10.2) false true))] (.br 13 (.v 14 (.elem ([(.int .i64 x11)] ++ F_I (n.drop (s10.1.toNat + 1)))) (.ite (isL x12) (.jn [5, 7, 10, 11, 12] [none, none, none, none, none] [] [] .ret [(4, (.slice none 1 0 0 true))] [] (.en [4] [none] [] [])) (.jn [5, 7, 10, 11, 12] [none, none, none, none, none] [] [] .normal [(5, (.acc 0 0 1 s10.2.length true)), (7, (.int .i64 x11)), (10, (l_I n)), (11, (.int .i64 (n.length : Int))), (12, (.int .i64 s10.1))] [(some (.cells (F_B s10.2) false true))] (.lp [none, none, none, none, none] [] [] (.exit 2) [(5, (.acc 0 0 1 x17.2.length true)), (7, (.int .i64 x17.1)), (10, (l_I n)), (11, (.int .i64 (n.length : Int))), (12, (.int .i64 s10.1))] [(some (.cells (F_B x17.2) false true))] (.v 35 (.int .u8 ((u8w x17.1).toNat : Int)) (.ap 37 (x17.2 ++ [(u8w x17.1)]).length (F_B (x17.2 ++ [(u8w x17.1)])) (.en [5, 10, 11, 12] [none, none, none, none] [] []))))))) (.en [5] [none] [] [])) (roundX [5, 10, 11, 12] (st_nums_Put_L2 n) (fin_nums_Put_L2 n) r) = (((decide (s10.1 < (n.length : Int))) = true → (wP (.idxSlice 1 (.c (l_I n)) (.c (.int .i64 s10.1))) = some (.elem ([(.int .i64 x11)] ++ F_I (n.drop (s10.1.toNat + 1)))) ∧ (((isL x12) = true → (RunS (bexec C KK 41 WJ82_bbabklbbakba) 0 [(5, (.acc 0 0 1 s10.2.length true)), (7, (.int .i64 x11)), (10, (l_I n)), (11, (.int .i64 (n.length : Int))), (12, (.int .i64 s10.1))] [(some (.cells (F_B s10.2) false true))] .ret [(4, (.slice none 1 0 0 true))] [] ∧ (.ret = (roundX [5, 10, 11, 12] (st_nums_Put_L2 n) (fin_nums_Put_L2 n) r).1 ∧ [(4, (.slice none 1 0 0 true))] = (roundX [5, 10, 11, 12] (st_nums_Put_L2 n) (fin_nums_Put_L2 n) r).2.1 ∧ [] = (roundX [5, 10, 11, 12] (st_nums_Put_L2 n) (fin_nums_Put_L2 n) r).2.2))) ∧ ((isL x12) = false → (RunS (bexec C KK 41 WJ82_bbabklbbakba) 0 [(5, (.acc 0 0 1 s10.2.length true)), (7, (.int .i64 x11)), (10, (l_I n)), (11, (.int .i64 (n.length : Int))), (12, (.int .i64 s10.1))] [(some (.cells (F_B s10.2) false true))] .normal [(5, (.acc 0 0 1 s10.2.length true)), (7, (.int .i64 x11)), (10, (l_I n)), (11, (.int .i64 (n.length : Int))), (12, (.int .i64 s10.1))] [(some (.cells (F_B s10.2) false true))] ∧ (RunS (bloop (bexec C KK 41 WB82_1) [5, 7, 10, 11, 12] KK) 0 [(5, (.acc 0 0 1 s10.2.length true)), (7, (.int .i64 x11)), (10, (l_I n)), (11, (.int .i64 (n.length : Int))), (12, (.int .i64 s10.1))] [(some (.cells (F_B s10.2) false true))] (.exit 2) [(5, (.acc 0 0 1 x17.2.length true)), (7, (.int .i64 x17.1)), (10, (l_I n)), (11, (.int .i64 (n.length : Int))), (12, (.int .i64 s10.1))] [(some (.cells (F_B x17.2) false true))] ∧ (@Eq (Option AV) (some (.int .u8 (IntKind.u8.wrap x17.1))) (some (.int .u8 ((u8w x17.1).toNat : Int))) ∧ (x17.2.length + 1 = (x17.2 ++ [(u8w x17.1)]).length ∧ (F_B x17.2 ++ F_B ([(u8w x17.1)]) = F_B (x17.2 ++ [(u8w x17.1)]) ∧ (fitsB 1 (x17.2 ++ [(u8w x17.1)]).length = true ∧ (.normal = (roundX [5, 10, 11, 12] (st_nums_Put_L2 n) (fin_nums_Put_L2 n) r).1 ∧ [(5, (.acc 0 0 1 ((x17.2 ++ [(u8w x17.1)]).length) true)), (10, (l_I n)), (11, (.int .i64 (n.length : Int))), (12, (.int .i64 (IntKind.i64.wrap (s10.1 + 1))))] = (roundX [5, 10, 11, 12] (st_nums_Put_L2 n) (fin_nums_Put_L2 n) r).2.1 ∧ [(some (.cells (F_B (x17.2 ++ [(u8w x17.1)])) false true))] = (roundX [5, 10, 11, 12] (st_nums_Put_L2 n) (fin_nums_Put_L2 n) r).2.2))))))))))) ∧ ((decide (s10.1 < (n.length : Int))) = false → ((.exit 0) = (roundX [5, 10, 11, 12] (st_nums_Put_L2 n) (fin_nums_Put_L2 n) r).1 ∧ [(5, (.acc 0 0 1 s10.2.length true))] = (roundX [5, 10, 11, 12] (st_nums_Put_L2 n) (fin_nums_Put_L2 n) r).2.1 ∧ [(some (.cells (F_B s10.2) false true))] = (roundX [5, 10, 11, 12] (st_nums_Put_L2 n) (fin_nums_Put_L2 n) r).2.2))) := fun C => by kernel_rfl
  refine runS_of (fun _ _ h => by cases h) WB82_0_ok (Nat.le_of_ble_eq_true rfl) ((e _).mpr ?_)
  unfold nums_Put_L2_s at h
  refine ⟨fun hb => ?_, fun hb => ?_⟩
  · have h := cond_t hb h
    obtain ⟨q11, h⟩ := bget hx11 h
    refine ⟨wP_idx R_I q11, ?_⟩
    obtain ⟨q12, h⟩ := bget hx12 h
    refine ⟨fun hb13 => ?_, fun hb13 => ?_⟩
    · have h := cond_t hb13 h
      refine ⟨by have h := s_nums_Put_J0 (d + 0) q12; rw [isL_t hb13] at h; exact h, ?_⟩
      obtain rfl := Option.some.inj h
      exact ⟨rfl, by first | rfl | (simp only [roundX, zipKeep, fin_nums_Put_L2, st_nums_Put_L2, List.length_set, List.length_append, List.length_replicate, List.length_cons, List.length_nil, Nat.add_zero, Nat.zero_add]; done) | simp [roundX, zipKeep, fin_nums_Put_L2, st_nums_Put_L2], by first | rfl | (simp only [roundX, zipKeep, fin_nums_Put_L2, st_nums_Put_L2, List.length_set, List.length_append, List.length_replicate, List.length_cons, List.length_nil, Nat.add_zero, Nat.zero_add]; done) | simp [roundX, zipKeep, fin_nums_Put_L2, st_nums_Put_L2]⟩
    · have h := cond_f hb13 h
      refine ⟨by have h := s_nums_Put_J0 (d + 0) q12; rw [isL_f hb13] at h; exact h, ?_⟩
      obtain ⟨q17, h⟩ := bget hx17 h
      refine ⟨s_nums_Put_L1 (d + 0) q17, ?_⟩
      refine ⟨u8_w _, ?_⟩
      obtain ⟨q18, h⟩ := gd_some h
      refine ⟨by simp, ?_⟩
      refine ⟨(Row.app R_B _ _).symm, ?_⟩
      refine ⟨q18, ?_⟩
      obtain rfl := Option.some.inj h
      exact ⟨rfl, by first | rfl | (simp only [roundX, zipKeep, fin_nums_Put_L2, st_nums_Put_L2, List.length_set, List.length_append, List.length_replicate, List.length_cons, List.length_nil, Nat.add_zero, Nat.zero_add]; done) | simp [roundX, zipKeep, fin_nums_Put_L2, st_nums_Put_L2], by first | rfl | (simp only [roundX, zipKeep, fin_nums_Put_L2, st_nums_Put_L2, List.length_set, List.length_append, List.length_replicate, List.length_cons, List.length_nil, Nat.add_zero, Nat.zero_add]; done) | simp [roundX, zipKeep, fin_nums_Put_L2, st_nums_Put_L2]⟩
  · have h := cond_f hb h
    obtain rfl := Option.some.inj h
    exact ⟨rfl, by first | rfl | (simp only [roundX, zipKeep, fin_nums_Put_L2, st_nums_Put_L2, List.length_set, List.length_append, List.length_replicate, List.length_cons, List.length_nil, Nat.add_zero, Nat.zero_add]; done) | simp [roundX, zipKeep, fin_nums_Put_L2, st_nums_Put_L2], by first | rfl | (simp only [roundX, zipKeep, fin_nums_Put_L2, st_nums_Put_L2, List.length_set, List.length_append, List.length_replicate, List.length_cons, List.length_nil, Nat.add_zero, Nat.zero_add]; done) | simp [roundX, zipKeep, fin_nums_Put_L2, st_nums_Put_L2]⟩
theorem s_nums_Put_L2 (d : Nat) {n : List Int} {s10 : Int × List UInt8} {r : Unit ⊕ (List UInt8)} (h : nums_Put_L2 n s10 = some r) : RunS (bloop (bexec (wcalls atab (d + 0)) KK 41 WB82_0) [5, 10, 11, 12] KK) 0 [(5, (.acc 0 0 1 s10.2.length true)), (10, (l_I n)), (11, (.int .i64 (n.length : Int))), (12, (.int .i64 s10.1))] [(some (.cells (F_B s10.2) false true))] (fin_nums_Put_L2 n r).1 (fin_nums_Put_L2 n r).2.1 (fin_nums_Put_L2 n r).2.2 :=
  loop_of (st := st_nums_Put_L2 n) (fin := fin_nums_Put_L2 n) (step := nums_Put_L2_s n) (fun e => by rcases e with e | e <;> (intro h; cases h)) (fun s x h => b_nums_Put_L2 d h) KK s10 r h

def nums_Put (p_b : List UInt8) (n : List Int) : Option (List UInt8) :=
  gd (fitsB 1 p_b.length) ((nums_Put_L2 n (0, p_b)).bind fun (x19 : Unit ⊕ (List UInt8)) => cond (isL x19) (some []) (some (getR x19)))

theorem s_nums_Put (d : Nat) {p_b : List UInt8} {n : List Int} {r : List UInt8} (h : nums_Put p_b n = some r) : Spec (wcalls atab (d + 2)) 82 [(l_B p_b), (l_I n)] [] (l_B r) [] := by
  obtain ⟨x19, hx19⟩ : ∃ x : Unit ⊕ (List UInt8), x = (nums_Put_L2 n (0, p_b)).getD default := ⟨_, rfl⟩
  have e : ∀ C : ACalls, wBody C wB KK WF82 [(l_B p_b), (l_I n)] [] (.ite (isL x19) (.lp [none, none, none, none] [] [] .ret [(4, (.slice none 1 0 0 true))] [] (.fin (some false) [] none)) (.lp [none, none, none, none] [] [] (.exit 0) [(5, (.acc 0 0 1 ((getR x19).length) true))] [(some (.cells (F_B (getR x19)) false true))] (.fin (some false) [] none))) (l_B r) [] = (2 = 2 ∧ 2 ≤ 41 ∧ (fitsB 1 p_b.length = true ∧ (((isL x19) = true → (RunS (bloop (bexec C KK 41 WB82_0) [5, 10, 11, 12] KK) 0 [(5, (.acc 0 0 1 p_b.length true)), (10, (l_I n)), (11, (.int .i64 (n.length : Int))), (12, (.int .i64 0))] [(some (.cells (F_B p_b) false true))] .ret [(4, (.slice none 1 0 0 true))] [] ∧ (@Eq AV (l_B []) (l_B r) ∧ @Eq WH [] []))) ∧ ((isL x19) = false → (RunS (bloop (bexec C KK 41 WB82_0) [5, 10, 11, 12] KK) 0 [(5, (.acc 0 0 1 p_b.length true)), (10, (l_I n)), (11, (.int .i64 (n.length : Int))), (12, (.int .i64 0))] [(some (.cells (F_B p_b) false true))] (.exit 0) [(5, (.acc 0 0 1 ((getR x19).length) true))] [(some (.cells (F_B (getR x19)) false true))] ∧ (@Eq AV (l_B (getR x19)) (l_B r) ∧ @Eq WH [] [])))))) := fun C => by kernel_rfl
  refine spec_of (wB_ok _) rfl atab_82 WF82_ok ((e _).mpr ⟨rfl, by decide, ?_⟩)
  unfold nums_Put at h
  obtain ⟨q1, h⟩ := gd_some h
  refine ⟨q1, ?_⟩
  obtain ⟨q19, h⟩ := bget hx19 h
  refine ⟨fun hb20 => ?_, fun hb20 => ?_⟩
  · have h := cond_t hb20 h
    refine ⟨by have h := s_nums_Put_L2 (d + 1) q19; rw [isL_t hb20] at h; exact h, ?_⟩
    obtain rfl := Option.some.inj h
    exact ⟨by wleaf, by wleaf⟩
  · have h := cond_f hb20 h
    refine ⟨by have h := s_nums_Put_L2 (d + 1) q19; rw [isL_f hb20] at h; exact h, ?_⟩
    obtain rfl := Option.some.inj h
    exact ⟨by wleaf, by wleaf⟩

/- osmosis/hash.Sum -/
def st_hash_Sum_L0 (x8 : List UInt8) (parts : List (List UInt8)) (s7 : Int × Int) (s11 : Int × Int) : List AV × WH := ([(.int .u64 s11.1), (l_S parts), (.int .i64 (parts.length : Int)), (.int .i64 s7.2), (.acc 0 0 1 x8.length true), (.int .i64 (x8.length : Int)), (.int .i64 s11.2)], [(some (.cells (F_B x8) false true))])
def fin_hash_Sum_L0 (x8 : List UInt8) (parts : List (List UInt8)) (s7 : Int × Int) : Int → Ex × Fast × WH := fun e => ((.exit 2), [(3, (.int .u64 e)), (8, (l_S parts)), (9, (.int .i64 (parts.length : Int))), (10, (.int .i64 s7.2))], [])
def hash_Sum_L0_s (x8 : List UInt8) (parts : List (List UInt8)) (s7 : Int × Int) (s11 : Int × Int) : Option ((Int × Int) ⊕ (Int)) :=
  cond (decide (s11.2 < (x8.length : Int))) ((getI x8 s11.2).bind fun (x12 : UInt8) => some (.inl ((IntKind.u64.wrap ((xorI .u64 s11.1 (IntKind.u64.wrap (x12.toNat : Int))) * 1099511628211)), (IntKind.i64.wrap (s11.2 + 1))))) (some (.inr s11.1))
def hash_Sum_L0 (x8 : List UInt8) (parts : List (List UInt8)) (s7 : Int × Int) (s11 : Int × Int) : Option (Int) := loopX (hash_Sum_L0_s x8 parts s7) KK s11
theorem b_hash_Sum_L0 (d : Nat) {x8 : List UInt8} {parts : List (List UInt8)} {s7 : Int × Int} {s11 : Int × Int} {r : (Int × Int) ⊕ (Int)} (h : hash_Sum_L0_s x8 parts s7 s11 = some r) : RunS (bexec (wcalls atab (d + 0)) KK 32 WB118_1) 0 [(3, (.int .u64 s11.1)), (8, (l_S parts)), (9, (.int .i64 (parts.length : Int))), (10, (.int .i64 s7.2)), (15, (.acc 0 0 1 x8.length true)), (16, (.int .i64 (x8.length : Int))), (17, (.int .i64 s11.2))] [(some (.cells (F_B x8) false true))] (roundX [3, 8, 9, 10, 15, 16, 17] (st_hash_Sum_L0 x8 parts s7) (fin_hash_Sum_L0 x8 parts s7) r).1 (roundX [3, 8, 9, 10, 15, 16, 17] (st_hash_Sum_L0 x8 parts s7) (fin_hash_Sum_L0 x8 parts s7) r).2.1 (roundX [3, 8, 9, 10, 15, 16, 17] (st_hash_Sum_L0 x8 parts s7) (fin_hash_Sum_L0 x8 parts s7) r).2.2 := by
  obtain ⟨x12, hx12⟩ : ∃ x : UInt8, x = (getI x8 s11.2).getD default := ⟨_, rfl⟩
  have e : ∀ C : ACalls, wCode C (fun _ => none) KK 32 0 WB118_1 [(3, (.int .u64 s11.1)), (8, (l_S parts)), (9, (.int .i64 (parts.length : Int))), (10, (.int .i64 s7.2)), (15, (.acc 0 0 1 x8.length true)), (16, (.int .i64 (x8.length : Int))), (17, (.int .i64 s11.2))] [(some (.cells (F_B x8) false true))] (.br 18 (.v 19 (.ptr (some (0, 0 + s11.2.toNat * 1))) (.v 20 (.int .u8 (x12.toNat : Int)) (.en [3, 8, 9, 10, 15, 16, 17] [none, none, none, none, none, none, none] [] []))) (.en [3, 8, 9, 10] [none, none, none, none] [] [])) (roundX [3, 8, 9, 10, 15, 16, 17] (st_hash_Sum_L0 x8 parts s7) (fin_hash_Sum_L0 x8 parts s7) r) = (((decide (s11.2 < (x8.length : Int))) = true → (wP (.idxSlice 1 (.c (.acc 0 0 1 x8.length true)) (.c (.int .i64 s11.2))) = some (.ptr (some (0, 0 + s11.2.toNat * 1))) ∧ (cPart false (0 + s11.2.toNat * 1) 1 (F_B x8) = some (.int .u8 (x12.toNat : Int)) ∧ (.normal = (roundX [3, 8, 9, 10, 15, 16, 17] (st_hash_Sum_L0 x8 parts s7) (fin_hash_Sum_L0 x8 parts s7) r).1 ∧ [(3, (.int .u64 (IntKind.u64.wrap ((xorI .u64 s11.1 (IntKind.u64.wrap (x12.toNat : Int))) * 1099511628211)))), (8, (l_S parts)), (9, (.int .i64 (parts.length : Int))), (10, (.int .i64 s7.2)), (15, (.acc 0 0 1 x8.length true)), (16, (.int .i64 (x8.length : Int))), (17, (.int .i64 (IntKind.i64.wrap (s11.2 + 1))))] = (roundX [3, 8, 9, 10, 15, 16, 17] (st_hash_Sum_L0 x8 parts s7) (fin_hash_Sum_L0 x8 parts s7) r).2.1 ∧ [(some (.cells (F_B x8) false true))] = (roundX [3, 8, 9, 10, 15, 16, 17] (st_hash_Sum_L0 x8 parts s7) (fin_hash_Sum_L0 x8 parts s7) r).2.2)))) ∧ ((decide (s11.2 < (x8.length : Int))) = false → ((.exit 2) = (roundX [3, 8, 9, 10, 15, 16, 17] (st_hash_Sum_L0 x8 parts s7) (fin_hash_Sum_L0 x8 parts s7) r).1 ∧ [(3, (.int .u64 s11.1)), (8, (l_S parts)), (9, (.int .i64 (parts.length : Int))), (10, (.int .i64 s7.2))] = (roundX [3, 8, 9, 10, 15, 16, 17] (st_hash_Sum_L0 x8 parts s7) (fin_hash_Sum_L0 x8 parts s7) r).2.1 ∧ [] = (roundX [3, 8, 9, 10, 15, 16, 17] (st_hash_Sum_L0 x8 parts s7) (fin_hash_Sum_L0 x8 parts s7) r).2.2))) := fun C => by kernel_rfl
  refine runS_of (fun _ _ h => by cases h) WB118_1_ok (Nat.le_of_ble_eq_true rfl) ((e _).mpr ?_)
  unfold hash_Sum_L0_s at h
  refine ⟨fun hb => ?_, fun hb => ?_⟩
  · have h := cond_t hb h
    obtain ⟨q12, h⟩ := bget hx12 h
    refine ⟨wP_idxA R_B q12, ?_⟩
    refine ⟨cP_row (o := 0) R_B q12 rfl, ?_⟩
    obtain rfl := Option.some.inj h
    exact ⟨rfl, by first | rfl | (simp only [roundX, zipKeep, fin_hash_Sum_L0, st_hash_Sum_L0, List.length_set, List.length_append, List.length_replicate, List.length_cons, List.length_nil, Nat.add_zero, Nat.zero_add]; done) | simp [roundX, zipKeep, fin_hash_Sum_L0, st_hash_Sum_L0], by first | rfl | (simp only [roundX, zipKeep, fin_hash_Sum_L0, st_hash_Sum_L0, List.length_set, List.length_append, List.length_replicate, List.length_cons, List.length_nil, Nat.add_zero, Nat.zero_add]; done) | simp [roundX, zipKeep, fin_hash_Sum_L0, st_hash_Sum_L0]⟩
  · have h := cond_f hb h
    obtain rfl := Option.some.inj h
    exact ⟨rfl, by first | rfl | (simp only [roundX, zipKeep, fin_hash_Sum_L0, st_hash_Sum_L0, List.length_set, List.length_append, List.length_replicate, List.length_cons, List.length_nil, Nat.add_zero, Nat.zero_add]; done) | simp [roundX, zipKeep, fin_hash_Sum_L0, st_hash_Sum_L0], by first | rfl | (simp only [roundX, zipKeep, fin_hash_Sum_L0, st_hash_Sum_L0, List.length_set, List.length_append, List.length_replicate, List.length_cons, List.length_nil, Nat.add_zero, Nat.zero_add]; done) | simp [roundX, zipKeep, fin_hash_Sum_L0, st_hash_Sum_L0]⟩
theorem s_hash_Sum_L0 (d : Nat) {x8 : List UInt8} {parts : List (List UInt8)} {s7 : Int × Int} {s11 : Int × Int} {r : Int} (h : hash_Sum_L0 x8 parts s7 s11 = some r) : RunS (bloop (bexec (wcalls atab (d + 0)) KK 32 WB118_1) [3, 8, 9, 10, 15, 16, 17] KK) 0 [(3, (.int .u64 s11.1)), (8, (l_S parts)), (9, (.int .i64 (parts.length : Int))), (10, (.int .i64 s7.2)), (15, (.acc 0 0 1 x8.length true)), (16, (.int .i64 (x8.length : Int))), (17, (.int .i64 s11.2))] [(some (.cells (F_B x8) false true))] (fin_hash_Sum_L0 x8 parts s7 r).1 (fin_hash_Sum_L0 x8 parts s7 r).2.1 (fin_hash_Sum_L0 x8 parts s7 r).2.2 :=
  loop_of (st := st_hash_Sum_L0 x8 parts s7) (fin := fin_hash_Sum_L0 x8 parts s7) (step := hash_Sum_L0_s x8 parts s7) (fun e => by (intro h; cases h)) (fun s x h => b_hash_Sum_L0 d h) KK s11 r h

def st_hash_Sum_L1 (parts : List (List UInt8)) (s7 : Int × Int) : List AV × WH := ([(.int .u64 s7.1), (l_S parts), (.int .i64 (parts.length : Int)), (.int .i64 s7.2)], [])
def fin_hash_Sum_L1 (parts : List (List UInt8)) : Int → Ex × Fast × WH := fun e => ((.exit 0), [(3, (.int .u64 e))], [])
def hash_Sum_L1_s (parts : List (List UInt8)) (s7 : Int × Int) : Option ((Int × Int) ⊕ (Int)) :=
  cond (decide (s7.2 < (parts.length : Int))) ((getI parts s7.2).bind fun (x8 : List UInt8) => gd (decide (x8.length ≤ 70368744177664)) ((hash_Sum_L0 x8 parts s7 (s7.1, 0)).bind fun (x13 : Int) => some (.inl ((IntKind.u64.wrap ((xorI .u64 x13 256) * 1099511628211)), (IntKind.i64.wrap (s7.2 + 1)))))) (some (.inr s7.1))
def hash_Sum_L1 (parts : List (List UInt8)) (s7 : Int × Int) : Option (Int) := loopX (hash_Sum_L1_s parts) KK s7
theorem b_hash_Sum_L1 (d : Nat) {parts : List (List UInt8)} {s7 : Int × Int} {r : (Int × Int) ⊕ (Int)} (h : hash_Sum_L1_s parts s7 = some r) : RunS (bexec (wcalls atab (d + 0)) KK 32 WB118_0) 0 [(3, (.int .u64 s7.1)), (8, (l_S parts)), (9, (.int .i64 (parts.length : Int))), (10, (.int .i64 s7.2))] [] (roundX [3, 8, 9, 10] (st_hash_Sum_L1 parts) (fin_hash_Sum_L1 parts) r).1 (roundX [3, 8, 9, 10] (st_hash_Sum_L1 parts) (fin_hash_Sum_L1 parts) r).2.1 (roundX [3, 8, 9, 10] (st_hash_Sum_L1 parts) (fin_hash_Sum_L1 parts) r).2.2 := by
  obtain ⟨x8, hx8⟩ : ∃ x : List UInt8, x = (getI parts s7.2).getD default := ⟨_, rfl⟩
  obtain ⟨x13, hx13⟩ : ∃ x : Int, x = (hash_Sum_L0 x8 parts s7 (s7.1, 0)).getD default := ⟨_, rfl⟩
  have e : ∀ C : ACalls, wCode C (fun _ => none) KK 32 0 WB118_0 [(3, (.int .u64 s7.1)), (8, (l_S parts)), (9, (.int .i64 (parts.length : Int))), (10, (.int .i64 s7.2))] [] (.br 11 (.v 12 (.elem ([(.str x8)] ++ F_S (parts.drop (s7.2.toNat + 1)))) (.lp [none, none, none, none, none, none, none] [] [] (.exit 2) [(3, (.int .u64 x13)), (8, (l_S parts)), (9, (.int .i64 (parts.length : Int))), (10, (.int .i64 s7.2))] [] (.en [3, 8, 9, 10] [none, none, none, none] [] []))) (.en [3] [none] [] [])) (roundX [3, 8, 9, 10] (st_hash_Sum_L1 parts) (fin_hash_Sum_L1 parts) r) = (((decide (s7.2 < (parts.length : Int))) = true → (wP (.idxSlice 1 (.c (l_S parts)) (.c (.int .i64 s7.2))) = some (.elem ([(.str x8)] ++ F_S (parts.drop (s7.2.toNat + 1)))) ∧ (x8.length ≤ 70368744177664 ∧ (RunS (bloop (bexec C KK 32 WB118_1) [3, 8, 9, 10, 15, 16, 17] KK) 0 [(3, (.int .u64 s7.1)), (8, (l_S parts)), (9, (.int .i64 (parts.length : Int))), (10, (.int .i64 s7.2)), (15, (.acc 0 0 1 x8.length true)), (16, (.int .i64 (x8.length : Int))), (17, (.int .i64 0))] [(some (.cells (F_B x8) false true))] (.exit 2) [(3, (.int .u64 x13)), (8, (l_S parts)), (9, (.int .i64 (parts.length : Int))), (10, (.int .i64 s7.2))] [] ∧ (.normal = (roundX [3, 8, 9, 10] (st_hash_Sum_L1 parts) (fin_hash_Sum_L1 parts) r).1 ∧ [(3, (.int .u64 (IntKind.u64.wrap ((xorI .u64 x13 256) * 1099511628211)))), (8, (l_S parts)), (9, (.int .i64 (parts.length : Int))), (10, (.int .i64 (IntKind.i64.wrap (s7.2 + 1))))] = (roundX [3, 8, 9, 10] (st_hash_Sum_L1 parts) (fin_hash_Sum_L1 parts) r).2.1 ∧ [] = (roundX [3, 8, 9, 10] (st_hash_Sum_L1 parts) (fin_hash_Sum_L1 parts) r).2.2))))) ∧ ((decide (s7.2 < (parts.length : Int))) = false → ((.exit 0) = (roundX [3, 8, 9, 10] (st_hash_Sum_L1 parts) (fin_hash_Sum_L1 parts) r).1 ∧ [(3, (.int .u64 s7.1))] = (roundX [3, 8, 9, 10] (st_hash_Sum_L1 parts) (fin_hash_Sum_L1 parts) r).2.1 ∧ [] = (roundX [3, 8, 9, 10] (st_hash_Sum_L1 parts) (fin_hash_Sum_L1 parts) r).2.2))) := fun C => by kernel_rfl
  refine runS_of (fun _ _ h => by cases h) WB118_0_ok (Nat.le_of_ble_eq_true rfl) ((e _).mpr ?_)
  unfold hash_Sum_L1_s at h
  refine ⟨fun hb => ?_, fun hb => ?_⟩
  · have h := cond_t hb h
    obtain ⟨q8, h⟩ := bget hx8 h
    refine ⟨wP_idx R_S q8, ?_⟩
    obtain ⟨q9, h⟩ := gd_some h
    refine ⟨of_decide_eq_true q9, ?_⟩
    obtain ⟨q13, h⟩ := bget hx13 h
    refine ⟨s_hash_Sum_L0 (d + 0) q13, ?_⟩
    obtain rfl := Option.some.inj h
    exact ⟨rfl, by first | rfl | (simp only [roundX, zipKeep, fin_hash_Sum_L1, st_hash_Sum_L1, List.length_set, List.length_append, List.length_replicate, List.length_cons, List.length_nil, Nat.add_zero, Nat.zero_add]; done) | simp [roundX, zipKeep, fin_hash_Sum_L1, st_hash_Sum_L1], by first | rfl | (simp only [roundX, zipKeep, fin_hash_Sum_L1, st_hash_Sum_L1, List.length_set, List.length_append, List.length_replicate, List.length_cons, List.length_nil, Nat.add_zero, Nat.zero_add]; done) | simp [roundX, zipKeep, fin_hash_Sum_L1, st_hash_Sum_L1]⟩
  · have h := cond_f hb h
    obtain rfl := Option.some.inj h
    exact ⟨rfl, by first | rfl | (simp only [roundX, zipKeep, fin_hash_Sum_L1, st_hash_Sum_L1, List.length_set, List.length_append, List.length_replicate, List.length_cons, List.length_nil, Nat.add_zero, Nat.zero_add]; done) | simp [roundX, zipKeep, fin_hash_Sum_L1, st_hash_Sum_L1], by first | rfl | (simp only [roundX, zipKeep, fin_hash_Sum_L1, st_hash_Sum_L1, List.length_set, List.length_append, List.length_replicate, List.length_cons, List.length_nil, Nat.add_zero, Nat.zero_add]; done) | simp [roundX, zipKeep, fin_hash_Sum_L1, st_hash_Sum_L1]⟩
theorem s_hash_Sum_L1 (d : Nat) {parts : List (List UInt8)} {s7 : Int × Int} {r : Int} (h : hash_Sum_L1 parts s7 = some r) : RunS (bloop (bexec (wcalls atab (d + 0)) KK 32 WB118_0) [3, 8, 9, 10] KK) 0 [(3, (.int .u64 s7.1)), (8, (l_S parts)), (9, (.int .i64 (parts.length : Int))), (10, (.int .i64 s7.2))] [] (fin_hash_Sum_L1 parts r).1 (fin_hash_Sum_L1 parts r).2.1 (fin_hash_Sum_L1 parts r).2.2 :=
  loop_of (st := st_hash_Sum_L1 parts) (fin := fin_hash_Sum_L1 parts) (step := hash_Sum_L1_s parts) (fun e => by (intro h; cases h)) (fun s x h => b_hash_Sum_L1 d h) KK s7 r h

def hash_Sum (parts : List (List UInt8)) : Option (Int) :=
  (hash_Sum_L1 parts (14695981039346656037, 0)).bind fun (x14 : Int) => some x14

theorem s_hash_Sum (d : Nat) {parts : List (List UInt8)} {r : Int} (h : hash_Sum parts = some r) : Spec (wcalls atab (d + 1)) 118 [(l_S parts)] [] (.int .u64 r) [] := by
  obtain ⟨x14, hx14⟩ : ∃ x : Int, x = (hash_Sum_L1 parts (14695981039346656037, 0)).getD default := ⟨_, rfl⟩
  have e : ∀ C : ACalls, wBody C (fun _ => none) KK WF118 [(l_S parts)] [] (.lp [none, none, none, none] [] [] (.exit 0) [(3, (.int .u64 x14))] [] (.fin (some false) [] none)) (.int .u64 r) [] = (1 = 1 ∧ 1 ≤ 32 ∧ (RunS (bloop (bexec C KK 32 WB118_0) [3, 8, 9, 10] KK) 0 [(3, (.int .u64 14695981039346656037)), (8, (l_S parts)), (9, (.int .i64 (parts.length : Int))), (10, (.int .i64 0))] [] (.exit 0) [(3, (.int .u64 x14))] [] ∧ (@Eq AV (.int .u64 x14) (.int .u64 r) ∧ @Eq WH [] []))) := fun C => by kernel_rfl
  refine spec_of (fun _ _ h => by cases h) rfl atab_118 WF118_ok ((e _).mpr ⟨rfl, by decide, ?_⟩)
  unfold hash_Sum at h
  obtain ⟨q14, h⟩ := bget hx14 h
  refine ⟨s_hash_Sum_L1 (d + 0) q14, ?_⟩
  obtain rfl := Option.some.inj h
  exact ⟨by wleaf, by wleaf⟩

/- osmosis/frame.sum -/
def st_frame_sum_L0 (x1 : Int) (s6 : Int × List UInt8) : List AV × WH := ([(.int .u64 x1), (.acc 0 0 1 s6.2.length true), (.int .i64 s6.1)], [(some (.cells (F_B s6.2) false true))])
def fin_frame_sum_L0 (x1 : Int) : (List UInt8) → Ex × Fast × WH := fun e => ((.exit 0), [(4, (.acc 0 0 1 e.length true))], [(some (.cells (F_B e) false true))])
def frame_sum_L0_s (x1 : Int) (s6 : Int × List UInt8) : Option ((Int × List UInt8) ⊕ ((List UInt8))) :=
  cond (decide (s6.1 < 8)) ((shrI .u64 x1 (IntKind.i64.wrap (8 * (IntKind.i64.wrap (7 - s6.1))))).bind fun (x7 : Int) => gd (fitsB 1 (s6.2 ++ [(u8w x7)]).length) (some (.inl ((IntKind.i64.wrap (s6.1 + 1)), (s6.2 ++ [(u8w x7)]))))) (some (.inr s6.2))
def frame_sum_L0 (x1 : Int) (s6 : Int × List UInt8) : Option ((List UInt8)) := loopX (frame_sum_L0_s x1) KK s6
theorem b_frame_sum_L0 (d : Nat) {x1 : Int} {s6 : Int × List UInt8} {r : (Int × List UInt8) ⊕ ((List UInt8))} (h : frame_sum_L0_s x1 s6 = some r) : RunS (bexec (wcalls atab (d + 0)) KK 24 WB83_0) 0 [(3, (.int .u64 x1)), (4, (.acc 0 0 1 s6.2.length true)), (10, (.int .i64 s6.1))] [(some (.cells (F_B s6.2) false true))] (roundX [3, 4, 10] (st_frame_sum_L0 x1) (fin_frame_sum_L0 x1) r).1 (roundX [3, 4, 10] (st_frame_sum_L0 x1) (fin_frame_sum_L0 x1) r).2.1 (roundX [3, 4, 10] (st_frame_sum_L0 x1) (fin_frame_sum_L0 x1) r).2.2 := by
  obtain ⟨x7, hx7⟩ : ∃ x : Int, x = (shrI .u64 x1 (IntKind.i64.wrap (8 * (IntKind.i64.wrap (7 - s6.1))))).getD default := ⟨_, rfl⟩
  have e : ∀ C : ACalls, wCode C (fun _ => none) KK 24 0 WB83_0 [(3, (.int .u64 x1)), (4, (.acc 0 0 1 s6.2.length true)), (10, (.int .i64 s6.1))] [(some (.cells (F_B s6.2) false true))] (.br 11 (.v 18 (.int .u64 x7) (.v 19 (.int .u8 ((u8w x7).toNat : Int)) (.ap 21 (s6.2 ++ [(u8w x7)]).length (F_B (s6.2 ++ [(u8w x7)])) (.en [3, 4, 10] [none, none, none] [] [])))) (.en [4] [none] [] [])) (roundX [3, 4, 10] (st_frame_sum_L0 x1) (fin_frame_sum_L0 x1) r) = (((decide (s6.1 < 8)) = true → (aBin .shr (.int .u64 x1) (.int .i64 (IntKind.i64.wrap (8 * (IntKind.i64.wrap (7 - s6.1))))) = some (.int .u64 x7) ∧ (@Eq (Option AV) (some (.int .u8 (IntKind.u8.wrap x7))) (some (.int .u8 ((u8w x7).toNat : Int))) ∧ (s6.2.length + 1 = (s6.2 ++ [(u8w x7)]).length ∧ (F_B s6.2 ++ F_B ([(u8w x7)]) = F_B (s6.2 ++ [(u8w x7)]) ∧ (fitsB 1 (s6.2 ++ [(u8w x7)]).length = true ∧ (.normal = (roundX [3, 4, 10] (st_frame_sum_L0 x1) (fin_frame_sum_L0 x1) r).1 ∧ [(3, (.int .u64 x1)), (4, (.acc 0 0 1 ((s6.2 ++ [(u8w x7)]).length) true)), (10, (.int .i64 (IntKind.i64.wrap (s6.1 + 1))))] = (roundX [3, 4, 10] (st_frame_sum_L0 x1) (fin_frame_sum_L0 x1) r).2.1 ∧ [(some (.cells (F_B (s6.2 ++ [(u8w x7)])) false true))] = (roundX [3, 4, 10] (st_frame_sum_L0 x1) (fin_frame_sum_L0 x1) r).2.2))))))) ∧ ((decide (s6.1 < 8)) = false → ((.exit 0) = (roundX [3, 4, 10] (st_frame_sum_L0 x1) (fin_frame_sum_L0 x1) r).1 ∧ [(4, (.acc 0 0 1 s6.2.length true))] = (roundX [3, 4, 10] (st_frame_sum_L0 x1) (fin_frame_sum_L0 x1) r).2.1 ∧ [(some (.cells (F_B s6.2) false true))] = (roundX [3, 4, 10] (st_frame_sum_L0 x1) (fin_frame_sum_L0 x1) r).2.2))) := fun C => by kernel_rfl
  refine runS_of (fun _ _ h => by cases h) WB83_0_ok (Nat.le_of_ble_eq_true rfl) ((e _).mpr ?_)
  unfold frame_sum_L0_s at h
  refine ⟨fun hb => ?_, fun hb => ?_⟩
  · have h := cond_t hb h
    obtain ⟨q7, h⟩ := bget hx7 h
    refine ⟨wP_shr q7, ?_⟩
    refine ⟨u8_w _, ?_⟩
    obtain ⟨q8, h⟩ := gd_some h
    refine ⟨by simp, ?_⟩
    refine ⟨(Row.app R_B _ _).symm, ?_⟩
    refine ⟨q8, ?_⟩
    obtain rfl := Option.some.inj h
    exact ⟨rfl, by first | rfl | (simp only [roundX, zipKeep, fin_frame_sum_L0, st_frame_sum_L0, List.length_set, List.length_append, List.length_replicate, List.length_cons, List.length_nil, Nat.add_zero, Nat.zero_add]; done) | simp [roundX, zipKeep, fin_frame_sum_L0, st_frame_sum_L0], by first | rfl | (simp only [roundX, zipKeep, fin_frame_sum_L0, st_frame_sum_L0, List.length_set, List.length_append, List.length_replicate, List.length_cons, List.length_nil, Nat.add_zero, Nat.zero_add]; done) | simp [roundX, zipKeep, fin_frame_sum_L0, st_frame_sum_L0]⟩
  · have h := cond_f hb h
    obtain rfl := Option.some.inj h
    exact ⟨rfl, by first | rfl | (simp only [roundX, zipKeep, fin_frame_sum_L0, st_frame_sum_L0, List.length_set, List.length_append, List.length_replicate, List.length_cons, List.length_nil, Nat.add_zero, Nat.zero_add]; done) | simp [roundX, zipKeep, fin_frame_sum_L0, st_frame_sum_L0], by first | rfl | (simp only [roundX, zipKeep, fin_frame_sum_L0, st_frame_sum_L0, List.length_set, List.length_append, List.length_replicate, List.length_cons, List.length_nil, Nat.add_zero, Nat.zero_add]; done) | simp [roundX, zipKeep, fin_frame_sum_L0, st_frame_sum_L0]⟩
theorem s_frame_sum_L0 (d : Nat) {x1 : Int} {s6 : Int × List UInt8} {r : (List UInt8)} (h : frame_sum_L0 x1 s6 = some r) : RunS (bloop (bexec (wcalls atab (d + 0)) KK 24 WB83_0) [3, 4, 10] KK) 0 [(3, (.int .u64 x1)), (4, (.acc 0 0 1 s6.2.length true)), (10, (.int .i64 s6.1))] [(some (.cells (F_B s6.2) false true))] (fin_frame_sum_L0 x1 r).1 (fin_frame_sum_L0 x1 r).2.1 (fin_frame_sum_L0 x1 r).2.2 :=
  loop_of (st := st_frame_sum_L0 x1) (fin := fin_frame_sum_L0 x1) (step := frame_sum_L0_s x1) (fun e => by (intro h; cases h)) (fun s x h => b_frame_sum_L0 d h) KK s6 r h

def frame_sum (record : List UInt8) : Option (List UInt8) :=
  (hash_Sum [record]).bind fun (x1 : Int) => (frame_sum_L0 x1 (0, [])).bind fun (x9 : (List UInt8)) => some x9

theorem s_frame_sum (d : Nat) {record : List UInt8} {r : List UInt8} (h : frame_sum record = some r) : Spec (wcalls atab (d + 2)) 83 [(l_B record)] [] (l_B r) [] := by
  obtain ⟨x1, hx1⟩ : ∃ x : Int, x = (hash_Sum [record]).getD default := ⟨_, rfl⟩
  obtain ⟨x9, hx9⟩ : ∃ x : (List UInt8), x = (frame_sum_L0 x1 (0, [])).getD default := ⟨_, rfl⟩
  have e : ∀ C : ACalls, wBody C (fun _ => none) KK WF83 [(l_B record)] [] (.v 7 (.str record) (.cb [] [] (.int .u64 x1) (.lp [none, (some true), none] [] [] (.exit 0) [(4, (.acc 0 0 1 x9.length true))] [(some (.cells (F_B x9) false true))] (.fin (some false) [] none)))) (l_B r) [] = (1 = 1 ∧ 1 ≤ 24 ∧ ((toBytes (F_B record)).map AV.str = some (.str record) ∧ (Spec C 118 [(l_S [record])] [] (.int .u64 x1) [] ∧ (RunS (bloop (bexec C KK 24 WB83_0) [3, 4, 10] KK) 0 [(3, (.int .u64 x1)), (4, (.acc 0 0 1 0 true)), (10, (.int .i64 0))] [(some (.cells (F_B []) false true))] (.exit 0) [(4, (.acc 0 0 1 x9.length true))] [(some (.cells (F_B x9) false true))] ∧ (@Eq AV (l_B x9) (l_B r) ∧ @Eq WH [] []))))) := fun C => by kernel_rfl
  refine spec_of (fun _ _ h => by cases h) rfl atab_83 WF83_ok ((e _).mpr ⟨rfl, by decide, ?_⟩)
  unfold frame_sum at h
  refine ⟨by rw [show F_B record = (record).map byteC from rfl, toBytes_map]; rfl, ?_⟩
  obtain ⟨q1, h⟩ := bget hx1 h
  refine ⟨s_hash_Sum (d + 0) q1, ?_⟩
  obtain ⟨q9, h⟩ := bget hx9 h
  refine ⟨s_frame_sum_L0 (d + 1) q9, ?_⟩
  obtain rfl := Option.some.inj h
  exact ⟨by wleaf, by wleaf⟩

/- slices.Concat[[]byte,byte] -/
def st_slices_Concat_byte_byte_L0 (a0 : List (List UInt8)) (s2 : Int × Int) : List AV × WH := ([(l_LB a0), (.int .i64 s2.1), (l_LB a0), (.int .i64 (a0.length : Int)), (.int .i64 s2.2)], [])
def fin_slices_Concat_byte_byte_L0 (a0 : List (List UInt8)) : Int → Ex × Fast × WH := fun e => ((.exit 0), [(0, (l_LB a0)), (3, (.int .i64 e))], [])
def slices_Concat_byte_byte_L0_s (a0 : List (List UInt8)) (s2 : Int × Int) : Option ((Int × Int) ⊕ (Int)) :=
  cond (decide (s2.2 < (a0.length : Int))) ((getI a0 s2.2).bind fun (x3 : List UInt8) => cond (decide ((IntKind.i64.wrap (s2.1 + (x3.length : Int))) < 0)) (none) (some (.inl ((IntKind.i64.wrap (s2.1 + (x3.length : Int))), (IntKind.i64.wrap (s2.2 + 1)))))) (some (.inr s2.1))
def slices_Concat_byte_byte_L0 (a0 : List (List UInt8)) (s2 : Int × Int) : Option (Int) := loopX (slices_Concat_byte_byte_L0_s a0) KK s2
theorem b_slices_Concat_byte_byte_L0 (d : Nat) {a0 : List (List UInt8)} {s2 : Int × Int} {r : (Int × Int) ⊕ (Int)} (h : slices_Concat_byte_byte_L0_s a0 s2 = some r) : RunS (bexec (wcalls atab (d + 0)) KK 36 WB81_0) 0 [(0, (l_LB a0)), (3, (.int .i64 s2.1)), (9, (l_LB a0)), (10, (.int .i64 (a0.length : Int))), (11, (.int .i64 s2.2))] [] (roundX [0, 3, 9, 10, 11] (st_slices_Concat_byte_byte_L0 a0) (fin_slices_Concat_byte_byte_L0 a0) r).1 (roundX [0, 3, 9, 10, 11] (st_slices_Concat_byte_byte_L0 a0) (fin_slices_Concat_byte_byte_L0 a0) r).2.1 (roundX [0, 3, 9, 10, 11] (st_slices_Concat_byte_byte_L0 a0) (fin_slices_Concat_byte_byte_L0 a0) r).2.2 := by
  obtain ⟨x3, hx3⟩ : ∃ x : List UInt8, x = (getI a0 s2.2).getD default := ⟨_, rfl⟩
  have e : ∀ C : ACalls, wCode C (fun _ => none) KK 36 0 WB81_0 [(0, (l_LB a0)), (3, (.int .i64 s2.1)), (9, (l_LB a0)), (10, (.int .i64 (a0.length : Int))), (11, (.int .i64 s2.2))] [] (.br 12 (.v 13 (.elem ([(l_B x3)] ++ F_LB (a0.drop (s2.2.toNat + 1)))) (.br 20 (.nil) (.en [0, 3, 9, 10, 11] [none, none, none, none, none] [] []))) (.en [0, 3] [none, none] [] [])) (roundX [0, 3, 9, 10, 11] (st_slices_Concat_byte_byte_L0 a0) (fin_slices_Concat_byte_byte_L0 a0) r) = (((decide (s2.2 < (a0.length : Int))) = true → (wP (.idxSlice 1 (.c (l_LB a0)) (.c (.int .i64 s2.2))) = some (.elem ([(l_B x3)] ++ F_LB (a0.drop (s2.2.toNat + 1)))) ∧ (((decide ((IntKind.i64.wrap (s2.1 + (x3.length : Int))) < 0)) = true → False) ∧ ((decide ((IntKind.i64.wrap (s2.1 + (x3.length : Int))) < 0)) = false → (.normal = (roundX [0, 3, 9, 10, 11] (st_slices_Concat_byte_byte_L0 a0) (fin_slices_Concat_byte_byte_L0 a0) r).1 ∧ [(0, (l_LB a0)), (3, (.int .i64 (IntKind.i64.wrap (s2.1 + (x3.length : Int))))), (9, (l_LB a0)), (10, (.int .i64 (a0.length : Int))), (11, (.int .i64 (IntKind.i64.wrap (s2.2 + 1))))] = (roundX [0, 3, 9, 10, 11] (st_slices_Concat_byte_byte_L0 a0) (fin_slices_Concat_byte_byte_L0 a0) r).2.1 ∧ [] = (roundX [0, 3, 9, 10, 11] (st_slices_Concat_byte_byte_L0 a0) (fin_slices_Concat_byte_byte_L0 a0) r).2.2))))) ∧ ((decide (s2.2 < (a0.length : Int))) = false → ((.exit 0) = (roundX [0, 3, 9, 10, 11] (st_slices_Concat_byte_byte_L0 a0) (fin_slices_Concat_byte_byte_L0 a0) r).1 ∧ [(0, (l_LB a0)), (3, (.int .i64 s2.1))] = (roundX [0, 3, 9, 10, 11] (st_slices_Concat_byte_byte_L0 a0) (fin_slices_Concat_byte_byte_L0 a0) r).2.1 ∧ [] = (roundX [0, 3, 9, 10, 11] (st_slices_Concat_byte_byte_L0 a0) (fin_slices_Concat_byte_byte_L0 a0) r).2.2))) := fun C => by kernel_rfl
  refine runS_of (fun _ _ h => by cases h) WB81_0_ok (Nat.le_of_ble_eq_true rfl) ((e _).mpr ?_)
  unfold slices_Concat_byte_byte_L0_s at h
  refine ⟨fun hb => ?_, fun hb => ?_⟩
  · have h := cond_t hb h
    obtain ⟨q3, h⟩ := bget hx3 h
    refine ⟨wP_idx R_LB q3, ?_⟩
    refine ⟨fun hb => ?_, fun hb => ?_⟩
    · have h := cond_t hb h
      cases h
    · have h := cond_f hb h
      obtain rfl := Option.some.inj h
      exact ⟨rfl, by first | rfl | (simp only [roundX, zipKeep, fin_slices_Concat_byte_byte_L0, st_slices_Concat_byte_byte_L0, List.length_set, List.length_append, List.length_replicate, List.length_cons, List.length_nil, Nat.add_zero, Nat.zero_add]; done) | simp [roundX, zipKeep, fin_slices_Concat_byte_byte_L0, st_slices_Concat_byte_byte_L0], by first | rfl | (simp only [roundX, zipKeep, fin_slices_Concat_byte_byte_L0, st_slices_Concat_byte_byte_L0, List.length_set, List.length_append, List.length_replicate, List.length_cons, List.length_nil, Nat.add_zero, Nat.zero_add]; done) | simp [roundX, zipKeep, fin_slices_Concat_byte_byte_L0, st_slices_Concat_byte_byte_L0]⟩
  · have h := cond_f hb h
    obtain rfl := Option.some.inj h
    exact ⟨rfl, by first | rfl | (simp only [roundX, zipKeep, fin_slices_Concat_byte_byte_L0, st_slices_Concat_byte_byte_L0, List.length_set, List.length_append, List.length_replicate, List.length_cons, List.length_nil, Nat.add_zero, Nat.zero_add]; done) | simp [roundX, zipKeep, fin_slices_Concat_byte_byte_L0, st_slices_Concat_byte_byte_L0], by first | rfl | (simp only [roundX, zipKeep, fin_slices_Concat_byte_byte_L0, st_slices_Concat_byte_byte_L0, List.length_set, List.length_append, List.length_replicate, List.length_cons, List.length_nil, Nat.add_zero, Nat.zero_add]; done) | simp [roundX, zipKeep, fin_slices_Concat_byte_byte_L0, st_slices_Concat_byte_byte_L0]⟩
theorem s_slices_Concat_byte_byte_L0 (d : Nat) {a0 : List (List UInt8)} {s2 : Int × Int} {r : Int} (h : slices_Concat_byte_byte_L0 a0 s2 = some r) : RunS (bloop (bexec (wcalls atab (d + 0)) KK 36 WB81_0) [0, 3, 9, 10, 11] KK) 0 [(0, (l_LB a0)), (3, (.int .i64 s2.1)), (9, (l_LB a0)), (10, (.int .i64 (a0.length : Int))), (11, (.int .i64 s2.2))] [] (fin_slices_Concat_byte_byte_L0 a0 r).1 (fin_slices_Concat_byte_byte_L0 a0 r).2.1 (fin_slices_Concat_byte_byte_L0 a0 r).2.2 :=
  loop_of (st := st_slices_Concat_byte_byte_L0 a0) (fin := fin_slices_Concat_byte_byte_L0 a0) (step := slices_Concat_byte_byte_L0_s a0) (fun e => by (intro h; cases h)) (fun s x h => b_slices_Concat_byte_byte_L0 d h) KK s2 r h

def st_slices_Concat_byte_byte_L1 (a0 : List (List UInt8)) (s8 : Int × List UInt8) : List AV × WH := ([(.acc 0 0 1 s8.2.length true), (l_LB a0), (.int .i64 (a0.length : Int)), (.int .i64 s8.1)], [(some (.cells (F_B s8.2) false true))])
def fin_slices_Concat_byte_byte_L1 (a0 : List (List UInt8)) : (List UInt8) → Ex × Fast × WH := fun e => ((.exit 2), [(6, (.acc 0 0 1 e.length true))], [(some (.cells (F_B e) false true))])
def slices_Concat_byte_byte_L1_s (a0 : List (List UInt8)) (s8 : Int × List UInt8) : Option ((Int × List UInt8) ⊕ ((List UInt8))) :=
  cond (decide (s8.1 < (a0.length : Int))) ((getI a0 s8.1).bind fun (x9 : List UInt8) => gd (fitsB 1 (s8.2 ++ x9).length) (some (.inl ((IntKind.i64.wrap (s8.1 + 1)), (s8.2 ++ x9))))) (some (.inr s8.2))
def slices_Concat_byte_byte_L1 (a0 : List (List UInt8)) (s8 : Int × List UInt8) : Option ((List UInt8)) := loopX (slices_Concat_byte_byte_L1_s a0) KK s8
theorem b_slices_Concat_byte_byte_L1 (d : Nat) {a0 : List (List UInt8)} {s8 : Int × List UInt8} {r : (Int × List UInt8) ⊕ ((List UInt8))} (h : slices_Concat_byte_byte_L1_s a0 s8 = some r) : RunS (bexec (wcalls atab (d + 0)) KK 36 WB81_1) 0 [(6, (.acc 0 0 1 s8.2.length true)), (25, (l_LB a0)), (26, (.int .i64 (a0.length : Int))), (27, (.int .i64 s8.1))] [(some (.cells (F_B s8.2) false true))] (roundX [6, 25, 26, 27] (st_slices_Concat_byte_byte_L1 a0) (fin_slices_Concat_byte_byte_L1 a0) r).1 (roundX [6, 25, 26, 27] (st_slices_Concat_byte_byte_L1 a0) (fin_slices_Concat_byte_byte_L1 a0) r).2.1 (roundX [6, 25, 26, 27] (st_slices_Concat_byte_byte_L1 a0) (fin_slices_Concat_byte_byte_L1 a0) r).2.2 := by
  obtain ⟨x9, hx9⟩ : ∃ x : List UInt8, x = (getI a0 s8.1).getD default := ⟨_, rfl⟩
  have e : ∀ C : ACalls, wCode C (fun _ => none) KK 36 0 WB81_1 [(6, (.acc 0 0 1 s8.2.length true)), (25, (l_LB a0)), (26, (.int .i64 (a0.length : Int))), (27, (.int .i64 s8.1))] [(some (.cells (F_B s8.2) false true))] (.br 28 (.v 29 (.elem ([(l_B x9)] ++ F_LB (a0.drop (s8.1.toNat + 1)))) (.ap 33 (s8.2 ++ x9).length (F_B (s8.2 ++ x9)) (.en [6, 25, 26, 27] [none, none, none, none] [] []))) (.en [6] [none] [] [])) (roundX [6, 25, 26, 27] (st_slices_Concat_byte_byte_L1 a0) (fin_slices_Concat_byte_byte_L1 a0) r) = (((decide (s8.1 < (a0.length : Int))) = true → (wP (.idxSlice 1 (.c (l_LB a0)) (.c (.int .i64 s8.1))) = some (.elem ([(l_B x9)] ++ F_LB (a0.drop (s8.1.toNat + 1)))) ∧ (s8.2.length + x9.length = (s8.2 ++ x9).length ∧ (F_B s8.2 ++ F_B x9 = F_B (s8.2 ++ x9) ∧ (fitsB 1 (s8.2 ++ x9).length = true ∧ (.normal = (roundX [6, 25, 26, 27] (st_slices_Concat_byte_byte_L1 a0) (fin_slices_Concat_byte_byte_L1 a0) r).1 ∧ [(6, (.acc 0 0 1 ((s8.2 ++ x9).length) true)), (25, (l_LB a0)), (26, (.int .i64 (a0.length : Int))), (27, (.int .i64 (IntKind.i64.wrap (s8.1 + 1))))] = (roundX [6, 25, 26, 27] (st_slices_Concat_byte_byte_L1 a0) (fin_slices_Concat_byte_byte_L1 a0) r).2.1 ∧ [(some (.cells (F_B (s8.2 ++ x9)) false true))] = (roundX [6, 25, 26, 27] (st_slices_Concat_byte_byte_L1 a0) (fin_slices_Concat_byte_byte_L1 a0) r).2.2)))))) ∧ ((decide (s8.1 < (a0.length : Int))) = false → ((.exit 2) = (roundX [6, 25, 26, 27] (st_slices_Concat_byte_byte_L1 a0) (fin_slices_Concat_byte_byte_L1 a0) r).1 ∧ [(6, (.acc 0 0 1 s8.2.length true))] = (roundX [6, 25, 26, 27] (st_slices_Concat_byte_byte_L1 a0) (fin_slices_Concat_byte_byte_L1 a0) r).2.1 ∧ [(some (.cells (F_B s8.2) false true))] = (roundX [6, 25, 26, 27] (st_slices_Concat_byte_byte_L1 a0) (fin_slices_Concat_byte_byte_L1 a0) r).2.2))) := fun C => by kernel_rfl
  refine runS_of (fun _ _ h => by cases h) WB81_1_ok (Nat.le_of_ble_eq_true rfl) ((e _).mpr ?_)
  unfold slices_Concat_byte_byte_L1_s at h
  refine ⟨fun hb => ?_, fun hb => ?_⟩
  · have h := cond_t hb h
    obtain ⟨q9, h⟩ := bget hx9 h
    refine ⟨wP_idx R_LB q9, ?_⟩
    obtain ⟨q10, h⟩ := gd_some h
    refine ⟨app_len _ _, ?_⟩
    refine ⟨(Row.app R_B _ _).symm, ?_⟩
    refine ⟨q10, ?_⟩
    obtain rfl := Option.some.inj h
    exact ⟨rfl, by first | rfl | (simp only [roundX, zipKeep, fin_slices_Concat_byte_byte_L1, st_slices_Concat_byte_byte_L1, List.length_set, List.length_append, List.length_replicate, List.length_cons, List.length_nil, Nat.add_zero, Nat.zero_add]; done) | simp [roundX, zipKeep, fin_slices_Concat_byte_byte_L1, st_slices_Concat_byte_byte_L1], by first | rfl | (simp only [roundX, zipKeep, fin_slices_Concat_byte_byte_L1, st_slices_Concat_byte_byte_L1, List.length_set, List.length_append, List.length_replicate, List.length_cons, List.length_nil, Nat.add_zero, Nat.zero_add]; done) | simp [roundX, zipKeep, fin_slices_Concat_byte_byte_L1, st_slices_Concat_byte_byte_L1]⟩
  · have h := cond_f hb h
    obtain rfl := Option.some.inj h
    exact ⟨rfl, by first | rfl | (simp only [roundX, zipKeep, fin_slices_Concat_byte_byte_L1, st_slices_Concat_byte_byte_L1, List.length_set, List.length_append, List.length_replicate, List.length_cons, List.length_nil, Nat.add_zero, Nat.zero_add]; done) | simp [roundX, zipKeep, fin_slices_Concat_byte_byte_L1, st_slices_Concat_byte_byte_L1], by first | rfl | (simp only [roundX, zipKeep, fin_slices_Concat_byte_byte_L1, st_slices_Concat_byte_byte_L1, List.length_set, List.length_append, List.length_replicate, List.length_cons, List.length_nil, Nat.add_zero, Nat.zero_add]; done) | simp [roundX, zipKeep, fin_slices_Concat_byte_byte_L1, st_slices_Concat_byte_byte_L1]⟩
theorem s_slices_Concat_byte_byte_L1 (d : Nat) {a0 : List (List UInt8)} {s8 : Int × List UInt8} {r : (List UInt8)} (h : slices_Concat_byte_byte_L1 a0 s8 = some r) : RunS (bloop (bexec (wcalls atab (d + 0)) KK 36 WB81_1) [6, 25, 26, 27] KK) 0 [(6, (.acc 0 0 1 s8.2.length true)), (25, (l_LB a0)), (26, (.int .i64 (a0.length : Int))), (27, (.int .i64 s8.1))] [(some (.cells (F_B s8.2) false true))] (fin_slices_Concat_byte_byte_L1 a0 r).1 (fin_slices_Concat_byte_byte_L1 a0 r).2.1 (fin_slices_Concat_byte_byte_L1 a0 r).2.2 :=
  loop_of (st := st_slices_Concat_byte_byte_L1 a0) (fin := fin_slices_Concat_byte_byte_L1 a0) (step := slices_Concat_byte_byte_L1_s a0) (fun e => by (intro h; cases h)) (fun s x h => b_slices_Concat_byte_byte_L1 d h) KK s8 r h

def slices_Concat_byte_byte (a0 : List (List UInt8)) : Option (List UInt8) :=
  (slices_Concat_byte_byte_L0 a0 (0, 0)).bind fun (x4 : Int) => gd (growB 1 x4) ((slices_Concat_byte_byte_L1 a0 (0, ([] : List UInt8))).bind fun (x11 : (List UInt8)) => some x11)

theorem s_slices_Concat_byte_byte (d : Nat) {a0 : List (List UInt8)} {r : List UInt8} (h : slices_Concat_byte_byte a0 = some r) : Spec (wcalls atab (d + 2)) 81 [(l_LB a0)] [] (l_B r) [] := by
  obtain ⟨x4, hx4⟩ : ∃ x : Int, x = (slices_Concat_byte_byte_L0 a0 (0, 0)).getD default := ⟨_, rfl⟩
  obtain ⟨x11, hx11⟩ : ∃ x : (List UInt8), x = (slices_Concat_byte_byte_L1 a0 (0, ([] : List UInt8))).getD default := ⟨_, rfl⟩
  have e : ∀ C : ACalls, wBody C wB KK WF81 [(l_LB a0)] [] (.lp [none, none, none, none, none] [] [] (.exit 0) [(0, (l_LB a0)), (3, (.int .i64 x4))] [] (.lp [none, none, none, none] [] [] (.exit 2) [(6, (.acc 0 0 1 x11.length true))] [(some (.cells (F_B x11) false true))] (.fin (some false) [] none))) (l_B r) [] = (1 = 1 ∧ 1 ≤ 36 ∧ (RunS (bloop (bexec C KK 36 WB81_0) [0, 3, 9, 10, 11] KK) 0 [(0, (l_LB a0)), (3, (.int .i64 0)), (9, (l_LB a0)), (10, (.int .i64 (a0.length : Int))), (11, (.int .i64 0))] [] (.exit 0) [(0, (l_LB a0)), (3, (.int .i64 x4))] [] ∧ ((0 ≤ x4 ∧ x4 ≤ 70368744177664 ∧ 1 * (x4).toNat ≤ 281474976710656 ∧ (x4).toNat * 1 ≤ 70368744177664) ∧ (RunS (bloop (bexec C KK 36 WB81_1) [6, 25, 26, 27] KK) 0 [(6, (.acc 0 0 1 0 true)), (25, (l_LB a0)), (26, (.int .i64 (a0.length : Int))), (27, (.int .i64 0))] [(some (.cells (F_B ([] : List UInt8)) false true))] (.exit 2) [(6, (.acc 0 0 1 x11.length true))] [(some (.cells (F_B x11) false true))] ∧ (@Eq AV (l_B x11) (l_B r) ∧ @Eq WH [] []))))) := fun C => by kernel_rfl
  refine spec_of (wB_ok _) rfl atab_81 WF81_ok ((e _).mpr ⟨rfl, by decide, ?_⟩)
  unfold slices_Concat_byte_byte at h
  obtain ⟨q4, h⟩ := bget hx4 h
  refine ⟨s_slices_Concat_byte_byte_L0 (d + 1) q4, ?_⟩
  obtain ⟨q5, h⟩ := gd_some h
  refine ⟨of_decide_eq_true q5, ?_⟩
  obtain ⟨q11, h⟩ := bget hx11 h
  refine ⟨s_slices_Concat_byte_byte_L1 (d + 1) q11, ?_⟩
  obtain rfl := Option.some.inj h
  exact ⟨by wleaf, by wleaf⟩

/- osmosis/frame.Lay -/
def st_frame_Lay_L0 (records : List (List UInt8)) (s10 : List UInt8 × Int) : List AV × WH := ([(l_B s10.1), (l_LB records), (.int .i64 (records.length : Int)), (.int .i64 s10.2)], [])
def fin_frame_Lay_L0 (records : List (List UInt8)) : (List UInt8) → Ex × Fast × WH := fun e => ((.exit 0), [(5, (l_B e))], [])
def frame_Lay_L0_s (records : List (List UInt8)) (s10 : List UInt8 × Int) : Option ((List UInt8 × Int) ⊕ ((List UInt8))) :=
  cond (decide (s10.2 < (records.length : Int))) ((getI records s10.2).bind fun (x11 : List UInt8) => (nums_Put s10.1 ([(x11.length : Int)])).bind fun (x12 : List UInt8) => (frame_sum x11).bind fun (x13 : List UInt8) => (slices_Concat_byte_byte ([x12, x13, x11])).bind fun (x14 : List UInt8) => some (.inl (x14, (IntKind.i64.wrap (s10.2 + 1))))) (some (.inr s10.1))
def frame_Lay_L0 (records : List (List UInt8)) (s10 : List UInt8 × Int) : Option ((List UInt8)) := loopX (frame_Lay_L0_s records) KK s10
theorem b_frame_Lay_L0 (d : Nat) {records : List (List UInt8)} {s10 : List UInt8 × Int} {r : (List UInt8 × Int) ⊕ ((List UInt8))} (h : frame_Lay_L0_s records s10 = some r) : RunS (bexec (wcalls atab (d + 2)) KK 29 WB23_0) 0 [(5, (l_B s10.1)), (10, (l_LB records)), (11, (.int .i64 (records.length : Int))), (12, (.int .i64 s10.2))] [] (roundX [5, 10, 11, 12] (st_frame_Lay_L0 records) (fin_frame_Lay_L0 records) r).1 (roundX [5, 10, 11, 12] (st_frame_Lay_L0 records) (fin_frame_Lay_L0 records) r).2.1 (roundX [5, 10, 11, 12] (st_frame_Lay_L0 records) (fin_frame_Lay_L0 records) r).2.2 := by
  obtain ⟨x11, hx11⟩ : ∃ x : List UInt8, x = (getI records s10.2).getD default := ⟨_, rfl⟩
  obtain ⟨x12, hx12⟩ : ∃ x : List UInt8, x = (nums_Put s10.1 ([(x11.length : Int)])).getD default := ⟨_, rfl⟩
  obtain ⟨x13, hx13⟩ : ∃ x : List UInt8, x = (frame_sum x11).getD default := ⟨_, rfl⟩
  obtain ⟨x14, hx14⟩ : ∃ x : List UInt8, x = (slices_Concat_byte_byte ([x12, x13, x11])).getD default := ⟨_, rfl⟩
  have e : ∀ C : ACalls, wCode C (fun _ => none) KK 29 0 WB23_0 [(5, (l_B s10.1)), (10, (l_LB records)), (11, (.int .i64 (records.length : Int))), (12, (.int .i64 s10.2))] [] (.br 13 (.v 14 (.elem ([(l_B x11)] ++ F_LB (records.drop (s10.2.toNat + 1)))) (.call [] (some false) [] (l_B x12) [] (.call [] (some false) [] (l_B x13) [] (.call [] (some false) [] (l_B x14) [] (.en [5, 10, 11, 12] [none, none, none, none] [] []))))) (.en [5] [none] [] [])) (roundX [5, 10, 11, 12] (st_frame_Lay_L0 records) (fin_frame_Lay_L0 records) r) = (((decide (s10.2 < (records.length : Int))) = true → (wP (.idxSlice 1 (.c (l_LB records)) (.c (.int .i64 s10.2))) = some (.elem ([(l_B x11)] ++ F_LB (records.drop (s10.2.toNat + 1)))) ∧ (Spec C 82 [(l_B s10.1), (l_I ([(x11.length : Int)]))] [] (l_B x12) [] ∧ (0 ≤ 0 ∧ (Spec C 83 [(l_B x11)] [] (l_B x13) [] ∧ (0 ≤ 0 ∧ (Spec C 81 [(l_LB ([x12, x13, x11]))] [] (l_B x14) [] ∧ (0 ≤ 0 ∧ (.normal = (roundX [5, 10, 11, 12] (st_frame_Lay_L0 records) (fin_frame_Lay_L0 records) r).1 ∧ [(5, (l_B x14)), (10, (l_LB records)), (11, (.int .i64 (records.length : Int))), (12, (.int .i64 (IntKind.i64.wrap (s10.2 + 1))))] = (roundX [5, 10, 11, 12] (st_frame_Lay_L0 records) (fin_frame_Lay_L0 records) r).2.1 ∧ [] = (roundX [5, 10, 11, 12] (st_frame_Lay_L0 records) (fin_frame_Lay_L0 records) r).2.2))))))))) ∧ ((decide (s10.2 < (records.length : Int))) = false → ((.exit 0) = (roundX [5, 10, 11, 12] (st_frame_Lay_L0 records) (fin_frame_Lay_L0 records) r).1 ∧ [(5, (l_B s10.1))] = (roundX [5, 10, 11, 12] (st_frame_Lay_L0 records) (fin_frame_Lay_L0 records) r).2.1 ∧ [] = (roundX [5, 10, 11, 12] (st_frame_Lay_L0 records) (fin_frame_Lay_L0 records) r).2.2))) := fun C => by kernel_rfl
  refine runS_of (fun _ _ h => by cases h) WB23_0_ok (Nat.le_of_ble_eq_true rfl) ((e _).mpr ?_)
  unfold frame_Lay_L0_s at h
  refine ⟨fun hb => ?_, fun hb => ?_⟩
  · have h := cond_t hb h
    obtain ⟨q11, h⟩ := bget hx11 h
    refine ⟨wP_idx R_LB q11, ?_⟩
    obtain ⟨q12, h⟩ := bget hx12 h
    refine ⟨s_nums_Put (d + 0) q12, ?_⟩
    refine ⟨by decide, ?_⟩
    obtain ⟨q13, h⟩ := bget hx13 h
    refine ⟨s_frame_sum (d + 0) q13, ?_⟩
    refine ⟨by decide, ?_⟩
    obtain ⟨q14, h⟩ := bget hx14 h
    refine ⟨s_slices_Concat_byte_byte (d + 0) q14, ?_⟩
    refine ⟨by decide, ?_⟩
    obtain rfl := Option.some.inj h
    exact ⟨rfl, by first | rfl | (simp only [roundX, zipKeep, fin_frame_Lay_L0, st_frame_Lay_L0, List.length_set, List.length_append, List.length_replicate, List.length_cons, List.length_nil, Nat.add_zero, Nat.zero_add]; done) | simp [roundX, zipKeep, fin_frame_Lay_L0, st_frame_Lay_L0], by first | rfl | (simp only [roundX, zipKeep, fin_frame_Lay_L0, st_frame_Lay_L0, List.length_set, List.length_append, List.length_replicate, List.length_cons, List.length_nil, Nat.add_zero, Nat.zero_add]; done) | simp [roundX, zipKeep, fin_frame_Lay_L0, st_frame_Lay_L0]⟩
  · have h := cond_f hb h
    obtain rfl := Option.some.inj h
    exact ⟨rfl, by first | rfl | (simp only [roundX, zipKeep, fin_frame_Lay_L0, st_frame_Lay_L0, List.length_set, List.length_append, List.length_replicate, List.length_cons, List.length_nil, Nat.add_zero, Nat.zero_add]; done) | simp [roundX, zipKeep, fin_frame_Lay_L0, st_frame_Lay_L0], by first | rfl | (simp only [roundX, zipKeep, fin_frame_Lay_L0, st_frame_Lay_L0, List.length_set, List.length_append, List.length_replicate, List.length_cons, List.length_nil, Nat.add_zero, Nat.zero_add]; done) | simp [roundX, zipKeep, fin_frame_Lay_L0, st_frame_Lay_L0]⟩
theorem s_frame_Lay_L0 (d : Nat) {records : List (List UInt8)} {s10 : List UInt8 × Int} {r : (List UInt8)} (h : frame_Lay_L0 records s10 = some r) : RunS (bloop (bexec (wcalls atab (d + 2)) KK 29 WB23_0) [5, 10, 11, 12] KK) 0 [(5, (l_B s10.1)), (10, (l_LB records)), (11, (.int .i64 (records.length : Int))), (12, (.int .i64 s10.2))] [] (fin_frame_Lay_L0 records r).1 (fin_frame_Lay_L0 records r).2.1 (fin_frame_Lay_L0 records r).2.2 :=
  loop_of (st := st_frame_Lay_L0 records) (fin := fin_frame_Lay_L0 records) (step := frame_Lay_L0_s records) (fun e => by (intro h; cases h)) (fun s x h => b_frame_Lay_L0 d h) KK s10 r h

def frame_Lay (p_b : List UInt8) (records : List (List UInt8)) : Option (List UInt8) :=
  gd (fitsB 1 p_b.length) ((frame_Lay_L0 records (p_b, 0)).bind fun (x15 : (List UInt8)) => some x15)

theorem s_frame_Lay (d : Nat) {p_b : List UInt8} {records : List (List UInt8)} {r : List UInt8} (h : frame_Lay p_b records = some r) : Spec (wcalls atab (d + 3)) 23 [(l_B p_b), (l_LB records)] [] (l_B r) [] := by
  obtain ⟨x15, hx15⟩ : ∃ x : (List UInt8), x = (frame_Lay_L0 records (p_b, 0)).getD default := ⟨_, rfl⟩
  have e : ∀ C : ACalls, wBody C wB KK WF23 [(l_B p_b), (l_LB records)] [] (.lp [(some false), none, none, none] [] [] (.exit 0) [(5, (l_B x15))] [] (.fin (some false) [] none)) (l_B r) [] = (2 = 2 ∧ 2 ≤ 29 ∧ (fitsB 1 p_b.length = true ∧ (RunS (bloop (bexec C KK 29 WB23_0) [5, 10, 11, 12] KK) 0 [(5, (l_B p_b)), (10, (l_LB records)), (11, (.int .i64 (records.length : Int))), (12, (.int .i64 0))] [] (.exit 0) [(5, (l_B x15))] [] ∧ (@Eq AV (l_B x15) (l_B r) ∧ @Eq WH [] [])))) := fun C => by kernel_rfl
  refine spec_of (wB_ok _) rfl atab_23 WF23_ok ((e _).mpr ⟨rfl, by decide, ?_⟩)
  unfold frame_Lay at h
  obtain ⟨q1, h⟩ := gd_some h
  refine ⟨q1, ?_⟩
  obtain ⟨q15, h⟩ := bget hx15 h
  refine ⟨s_frame_Lay_L0 (d + 0) q15, ?_⟩
  obtain rfl := Option.some.inj h
  exact ⟨by wleaf, by wleaf⟩

/- osmosis/nums.take$1 -/
def nums_take_1 (c : UInt8) : Option (Bool) :=
  some (((u8w (andI .u8 (c.toNat : Int) 128)).toNat : Int) == 0)

theorem s_nums_take_1 (d : Nat) {c : UInt8} {r : Bool} (h : nums_take_1 c = some r) : Spec (wcalls atab (d + 1)) 140 [(.int .u8 (c.toNat : Int))] [] (.bool r) [] := by
  have e : ∀ C : ACalls, wBody C (fun _ => none) KK WF140 [(.int .u8 (c.toNat : Int))] [] (.v 4 (.int .u8 ((u8w (andI .u8 (c.toNat : Int) 128)).toNat : Int)) (.fin (some false) [] none)) (.bool r) [] = (1 = 1 ∧ 1 ≤ 6 ∧ (@Eq (Option AV) (some (.int .u8 (andI .u8 (c.toNat : Int) 128))) (some (.int .u8 ((u8w (andI .u8 (c.toNat : Int) 128)).toNat : Int))) ∧ (@Eq AV (.bool (((u8w (andI .u8 (c.toNat : Int) 128)).toNat : Int) == 0)) (.bool r) ∧ @Eq WH [] []))) := fun C => by kernel_rfl
  refine spec_of (fun _ _ h => by cases h) rfl atab_140 WF140_ok ((e _).mpr ⟨rfl, by decide, ?_⟩)
  unfold nums_take_1 at h
  refine ⟨u8_of rfl, ?_⟩
  obtain rfl := Option.some.inj h
  exact ⟨by wleaf, by wleaf⟩

/- slices.IndexFunc[[]byte,byte] -/
def st_slices_IndexFunc_byte_byte_L0 (a0 : List UInt8) (s3 : Int) : List AV × WH := ([(l_B a0), (.func 140 []), (.int .i64 (a0.length : Int)), (.int .i64 s3)], [])
def fin_slices_IndexFunc_byte_byte_L0 (a0 : List UInt8) : Int ⊕ Unit → Ex × Fast × WH := fun
  | .inl e => (.ret, [(4, (.int .i64 e))], [])
  | .inr e => ((.exit 0), [], [])
def slices_IndexFunc_byte_byte_L0_s (a0 : List UInt8) (s3 : Int) : Option ((Int) ⊕ (Int ⊕ Unit)) :=
  cond (decide (s3 < (a0.length : Int))) ((getI a0 s3).bind fun (x4 : UInt8) => (nums_take_1 x4).bind fun (x5 : Bool) => cond x5 (some (.inr (.inl s3))) (some (.inl (IntKind.i64.wrap (s3 + 1))))) (some (.inr (.inr ())))
def slices_IndexFunc_byte_byte_L0 (a0 : List UInt8) (s3 : Int) : Option (Int ⊕ Unit) := loopX (slices_IndexFunc_byte_byte_L0_s a0) KK s3
theorem b_slices_IndexFunc_byte_byte_L0 (d : Nat) {a0 : List UInt8} {s3 : Int} {r : (Int) ⊕ (Int ⊕ Unit)} (h : slices_IndexFunc_byte_byte_L0_s a0 s3 = some r) : RunS (bexec (wcalls atab (d + 1)) KK 19 WB139_0) 0 [(0, (l_B a0)), (1, (.func 140 [])), (7, (.int .i64 (a0.length : Int))), (8, (.int .i64 s3))] [] (roundX [0, 1, 7, 8] (st_slices_IndexFunc_byte_byte_L0 a0) (fin_slices_IndexFunc_byte_byte_L0 a0) r).1 (roundX [0, 1, 7, 8] (st_slices_IndexFunc_byte_byte_L0 a0) (fin_slices_IndexFunc_byte_byte_L0 a0) r).2.1 (roundX [0, 1, 7, 8] (st_slices_IndexFunc_byte_byte_L0 a0) (fin_slices_IndexFunc_byte_byte_L0 a0) r).2.2 := by
  obtain ⟨x4, hx4⟩ : ∃ x : UInt8, x = (getI a0 s3).getD default := ⟨_, rfl⟩
  obtain ⟨x5, hx5⟩ : ∃ x : Bool, x = (nums_take_1 x4).getD default := ⟨_, rfl⟩
  have e : ∀ C : ACalls, wCode C (fun _ => none) KK 19 0 WB139_0 [(0, (l_B a0)), (1, (.func 140 [])), (7, (.int .i64 (a0.length : Int))), (8, (.int .i64 s3))] [] (.br 9 (.v 14 (.elem ([(byteC x4)] ++ F_B (a0.drop (s3.toNat + 1)))) (.cb [] [] (.bool x5) (.br 16 (.en [4] [none] [] []) (.en [0, 1, 7, 8] [none, none, none, none] [] [])))) (.en [] [] [] [])) (roundX [0, 1, 7, 8] (st_slices_IndexFunc_byte_byte_L0 a0) (fin_slices_IndexFunc_byte_byte_L0 a0) r) = (((decide (s3 < (a0.length : Int))) = true → (wP (.idxSlice 1 (.c (l_B a0)) (.c (.int .i64 s3))) = some (.elem ([(byteC x4)] ++ F_B (a0.drop (s3.toNat + 1)))) ∧ (Spec C 140 [(.int .u8 (x4.toNat : Int))] [] (.bool x5) [] ∧ ((x5 = true → (.ret = (roundX [0, 1, 7, 8] (st_slices_IndexFunc_byte_byte_L0 a0) (fin_slices_IndexFunc_byte_byte_L0 a0) r).1 ∧ [(4, (.int .i64 s3))] = (roundX [0, 1, 7, 8] (st_slices_IndexFunc_byte_byte_L0 a0) (fin_slices_IndexFunc_byte_byte_L0 a0) r).2.1 ∧ [] = (roundX [0, 1, 7, 8] (st_slices_IndexFunc_byte_byte_L0 a0) (fin_slices_IndexFunc_byte_byte_L0 a0) r).2.2)) ∧ (x5 = false → (.normal = (roundX [0, 1, 7, 8] (st_slices_IndexFunc_byte_byte_L0 a0) (fin_slices_IndexFunc_byte_byte_L0 a0) r).1 ∧ [(0, (l_B a0)), (1, (.func 140 [])), (7, (.int .i64 (a0.length : Int))), (8, (.int .i64 (IntKind.i64.wrap (s3 + 1))))] = (roundX [0, 1, 7, 8] (st_slices_IndexFunc_byte_byte_L0 a0) (fin_slices_IndexFunc_byte_byte_L0 a0) r).2.1 ∧ [] = (roundX [0, 1, 7, 8] (st_slices_IndexFunc_byte_byte_L0 a0) (fin_slices_IndexFunc_byte_byte_L0 a0) r).2.2)))))) ∧ ((decide (s3 < (a0.length : Int))) = false → ((.exit 0) = (roundX [0, 1, 7, 8] (st_slices_IndexFunc_byte_byte_L0 a0) (fin_slices_IndexFunc_byte_byte_L0 a0) r).1 ∧ [] = (roundX [0, 1, 7, 8] (st_slices_IndexFunc_byte_byte_L0 a0) (fin_slices_IndexFunc_byte_byte_L0 a0) r).2.1 ∧ [] = (roundX [0, 1, 7, 8] (st_slices_IndexFunc_byte_byte_L0 a0) (fin_slices_IndexFunc_byte_byte_L0 a0) r).2.2))) := fun C => by kernel_rfl
  refine runS_of (fun _ _ h => by cases h) WB139_0_ok (Nat.le_of_ble_eq_true rfl) ((e _).mpr ?_)
  unfold slices_IndexFunc_byte_byte_L0_s at h
  refine ⟨fun hb => ?_, fun hb => ?_⟩
  · have h := cond_t hb h
    obtain ⟨q4, h⟩ := bget hx4 h
    refine ⟨wP_idx R_B q4, ?_⟩
    obtain ⟨q5, h⟩ := bget hx5 h
    refine ⟨s_nums_take_1 (d + 0) q5, ?_⟩
    refine ⟨fun hb => ?_, fun hb => ?_⟩
    · have h := cond_t hb h
      obtain rfl := Option.some.inj h
      exact ⟨rfl, by first | rfl | (simp only [roundX, zipKeep, fin_slices_IndexFunc_byte_byte_L0, st_slices_IndexFunc_byte_byte_L0, List.length_set, List.length_append, List.length_replicate, List.length_cons, List.length_nil, Nat.add_zero, Nat.zero_add]; done) | simp [roundX, zipKeep, fin_slices_IndexFunc_byte_byte_L0, st_slices_IndexFunc_byte_byte_L0], by first | rfl | (simp only [roundX, zipKeep, fin_slices_IndexFunc_byte_byte_L0, st_slices_IndexFunc_byte_byte_L0, List.length_set, List.length_append, List.length_replicate, List.length_cons, List.length_nil, Nat.add_zero, Nat.zero_add]; done) | simp [roundX, zipKeep, fin_slices_IndexFunc_byte_byte_L0, st_slices_IndexFunc_byte_byte_L0]⟩
    · have h := cond_f hb h
      obtain rfl := Option.some.inj h
      exact ⟨rfl, by first | rfl | (simp only [roundX, zipKeep, fin_slices_IndexFunc_byte_byte_L0, st_slices_IndexFunc_byte_byte_L0, List.length_set, List.length_append, List.length_replicate, List.length_cons, List.length_nil, Nat.add_zero, Nat.zero_add]; done) | simp [roundX, zipKeep, fin_slices_IndexFunc_byte_byte_L0, st_slices_IndexFunc_byte_byte_L0], by first | rfl | (simp only [roundX, zipKeep, fin_slices_IndexFunc_byte_byte_L0, st_slices_IndexFunc_byte_byte_L0, List.length_set, List.length_append, List.length_replicate, List.length_cons, List.length_nil, Nat.add_zero, Nat.zero_add]; done) | simp [roundX, zipKeep, fin_slices_IndexFunc_byte_byte_L0, st_slices_IndexFunc_byte_byte_L0]⟩
  · have h := cond_f hb h
    obtain rfl := Option.some.inj h
    exact ⟨rfl, by first | rfl | (simp only [roundX, zipKeep, fin_slices_IndexFunc_byte_byte_L0, st_slices_IndexFunc_byte_byte_L0, List.length_set, List.length_append, List.length_replicate, List.length_cons, List.length_nil, Nat.add_zero, Nat.zero_add]; done) | simp [roundX, zipKeep, fin_slices_IndexFunc_byte_byte_L0, st_slices_IndexFunc_byte_byte_L0], by first | rfl | (simp only [roundX, zipKeep, fin_slices_IndexFunc_byte_byte_L0, st_slices_IndexFunc_byte_byte_L0, List.length_set, List.length_append, List.length_replicate, List.length_cons, List.length_nil, Nat.add_zero, Nat.zero_add]; done) | simp [roundX, zipKeep, fin_slices_IndexFunc_byte_byte_L0, st_slices_IndexFunc_byte_byte_L0]⟩
theorem s_slices_IndexFunc_byte_byte_L0 (d : Nat) {a0 : List UInt8} {s3 : Int} {r : Int ⊕ Unit} (h : slices_IndexFunc_byte_byte_L0 a0 s3 = some r) : RunS (bloop (bexec (wcalls atab (d + 1)) KK 19 WB139_0) [0, 1, 7, 8] KK) 0 [(0, (l_B a0)), (1, (.func 140 [])), (7, (.int .i64 (a0.length : Int))), (8, (.int .i64 s3))] [] (fin_slices_IndexFunc_byte_byte_L0 a0 r).1 (fin_slices_IndexFunc_byte_byte_L0 a0 r).2.1 (fin_slices_IndexFunc_byte_byte_L0 a0 r).2.2 :=
  loop_of (st := st_slices_IndexFunc_byte_byte_L0 a0) (fin := fin_slices_IndexFunc_byte_byte_L0 a0) (step := slices_IndexFunc_byte_byte_L0_s a0) (fun e => by rcases e with e | e <;> (intro h; cases h)) (fun s x h => b_slices_IndexFunc_byte_byte_L0 d h) KK s3 r h

def slices_IndexFunc_byte_byte (a0 : List UInt8) : Option (Int) :=
  (slices_IndexFunc_byte_byte_L0 a0 0).bind fun (x6 : Int ⊕ Unit) => cond (isL x6) (some (getL x6)) (some (-1))

theorem s_slices_IndexFunc_byte_byte (d : Nat) {a0 : List UInt8} {r : Int} (h : slices_IndexFunc_byte_byte a0 = some r) : Spec (wcalls atab (d + 2)) 139 [(l_B a0), (.func 140 [])] [] (.int .i64 r) [] := by
  obtain ⟨x6, hx6⟩ : ∃ x : Int ⊕ Unit, x = (slices_IndexFunc_byte_byte_L0 a0 0).getD default := ⟨_, rfl⟩
  have e : ∀ C : ACalls, wBody C (fun _ => none) KK WF139 [(l_B a0), (.func 140 [])] [] (.ite (isL x6) (.lp [none, none, none, none] [] [] .ret [(4, (.int .i64 (getL x6)))] [] (.fin (some false) [] none)) (.lp [none, none, none, none] [] [] (.exit 0) [] [] (.fin (some false) [] none))) (.int .i64 r) [] = (2 = 2 ∧ 2 ≤ 19 ∧ (((isL x6) = true → (RunS (bloop (bexec C KK 19 WB139_0) [0, 1, 7, 8] KK) 0 [(0, (l_B a0)), (1, (.func 140 [])), (7, (.int .i64 (a0.length : Int))), (8, (.int .i64 0))] [] .ret [(4, (.int .i64 (getL x6)))] [] ∧ (@Eq AV (.int .i64 (getL x6)) (.int .i64 r) ∧ @Eq WH [] []))) ∧ ((isL x6) = false → (RunS (bloop (bexec C KK 19 WB139_0) [0, 1, 7, 8] KK) 0 [(0, (l_B a0)), (1, (.func 140 [])), (7, (.int .i64 (a0.length : Int))), (8, (.int .i64 0))] [] (.exit 0) [] [] ∧ (@Eq AV (.int .i64 (-1)) (.int .i64 r) ∧ @Eq WH [] []))))) := fun C => by kernel_rfl
  refine spec_of (fun _ _ h => by cases h) rfl atab_139 WF139_ok ((e _).mpr ⟨rfl, by decide, ?_⟩)
  unfold slices_IndexFunc_byte_byte at h
  obtain ⟨q6, h⟩ := bget hx6 h
  refine ⟨fun hb7 => ?_, fun hb7 => ?_⟩
  · have h := cond_t hb7 h
    refine ⟨by have h := s_slices_IndexFunc_byte_byte_L0 (d + 0) q6; rw [isL_t hb7] at h; exact h, ?_⟩
    obtain rfl := Option.some.inj h
    exact ⟨by wleaf, by wleaf⟩
  · have h := cond_f hb7 h
    refine ⟨by have h := s_slices_IndexFunc_byte_byte_L0 (d + 0) q6; rw [isL_f hb7] at h; exact h, ?_⟩
    obtain rfl := Option.some.inj h
    exact ⟨by wleaf, by wleaf⟩

/- osmosis/nums.take -/
def fin_nums_take_J0 (x1 : Int) (p_b : List UInt8) : Unit ⊕ Unit → Ex × Fast × WH := fun
  | .inl e => (.ret, [(2, (.int .i64 0)), (3, (.int .i64 0)), (4, (.int .i64 2))], [])
  | .inr e => (.normal, [(0, (l_B p_b)), (2, (.int .i64 0)), (5, (.int .i64 x1))], [])
def nums_take_J0 (x1 : Int) (p_b : List UInt8) : Option (Unit ⊕ Unit) :=
  cond (decide (x1 ≥ 9)) (some (.inl ())) (cond (decide (x1 > 0)) ((getI p_b x1).bind fun (x2 : UInt8) => cond ((x2.toNat : Int) == 0) (some (.inl ())) (some (.inr ()))) (some (.inr ())))
theorem s_nums_take_J0 (d : Nat) {x1 : Int} {p_b : List UInt8} {r : Unit ⊕ Unit} (h : nums_take_J0 x1 p_b = some r) : RunS (bexec (wcalls atab (d + 0)) KK 47 WJ133_bbba) 0 [(0, (l_B p_b)), (2, (.int .i64 0)), (5, (.int .i64 x1))] [] (fin_nums_take_J0 x1 p_b r).1 (fin_nums_take_J0 x1 p_b r).2.1 (fin_nums_take_J0 x1 p_b r).2.2 := by
  obtain ⟨x2, hx2⟩ : ∃ x : UInt8, x = (getI p_b x1).getD default := ⟨_, rfl⟩
  have e : ∀ C : ACalls, wCode C (fun _ => none) KK 47 0 WJ133_bbba [(0, (l_B p_b)), (2, (.int .i64 0)), (5, (.int .i64 x1))] [] (.br 13 (.en [2, 3, 4] [none, none, none] [] []) (.br 16 (.v 19 (.elem ([(byteC x2)] ++ F_B (p_b.drop (x1.toNat + 1)))) (.br 23 (.en [2, 3, 4] [none, none, none] [] []) (.en [0, 2, 5] [none, none, none] [] []))) (.en [0, 2, 5] [none, none, none] [] []))) (fin_nums_take_J0 x1 p_b r) = (((decide (x1 ≥ 9)) = true → (.ret = (fin_nums_take_J0 x1 p_b r).1 ∧ [(2, (.int .i64 0)), (3, (.int .i64 0)), (4, (.int .i64 2))] = (fin_nums_take_J0 x1 p_b r).2.1 ∧ [] = (fin_nums_take_J0 x1 p_b r).2.2)) ∧ ((decide (x1 ≥ 9)) = false → (((decide (x1 > 0)) = true → (wP (.idxSlice 1 (.c (l_B p_b)) (.c (.int .i64 x1))) = some (.elem ([(byteC x2)] ++ F_B (p_b.drop (x1.toNat + 1)))) ∧ ((((x2.toNat : Int) == 0) = true → (.ret = (fin_nums_take_J0 x1 p_b r).1 ∧ [(2, (.int .i64 0)), (3, (.int .i64 0)), (4, (.int .i64 2))] = (fin_nums_take_J0 x1 p_b r).2.1 ∧ [] = (fin_nums_take_J0 x1 p_b r).2.2)) ∧ (((x2.toNat : Int) == 0) = false → (.normal = (fin_nums_take_J0 x1 p_b r).1 ∧ [(0, (l_B p_b)), (2, (.int .i64 0)), (5, (.int .i64 x1))] = (fin_nums_take_J0 x1 p_b r).2.1 ∧ [] = (fin_nums_take_J0 x1 p_b r).2.2))))) ∧ ((decide (x1 > 0)) = false → (.normal = (fin_nums_take_J0 x1 p_b r).1 ∧ [(0, (l_B p_b)), (2, (.int .i64 0)), (5, (.int .i64 x1))] = (fin_nums_take_J0 x1 p_b r).2.1 ∧ [] = (fin_nums_take_J0 x1 p_b r).2.2))))) := fun C => by kernel_rfl
  refine runS_of (fun _ _ h => by cases h) WJ133_bbba_ok (Nat.le_of_ble_eq_true rfl) ((e _).mpr ?_)
  unfold nums_take_J0 at h
  refine ⟨fun hb => ?_, fun hb => ?_⟩
  · have h := cond_t hb h
    obtain rfl := Option.some.inj h
    exact ⟨rfl, by first | rfl | (simp only [roundX, zipKeep, fin_nums_take_J0, List.length_set, List.length_append, List.length_replicate, List.length_cons, List.length_nil, Nat.add_zero, Nat.zero_add]; done) | simp [roundX, zipKeep, fin_nums_take_J0], by first | rfl | (simp only [roundX, zipKeep, fin_nums_take_J0, List.length_set, List.length_append, List.length_replicate, List.length_cons, List.length_nil, Nat.add_zero, Nat.zero_add]; done) | simp [roundX, zipKeep, fin_nums_take_J0]⟩
  · have h := cond_f hb h
    refine ⟨fun hb => ?_, fun hb => ?_⟩
    · have h := cond_t hb h
      obtain ⟨q2, h⟩ := bget hx2 h
      refine ⟨wP_idx R_B q2, ?_⟩
      refine ⟨fun hb => ?_, fun hb => ?_⟩
      · have h := cond_t hb h
        obtain rfl := Option.some.inj h
        exact ⟨rfl, by first | rfl | (simp only [roundX, zipKeep, fin_nums_take_J0, List.length_set, List.length_append, List.length_replicate, List.length_cons, List.length_nil, Nat.add_zero, Nat.zero_add]; done) | simp [roundX, zipKeep, fin_nums_take_J0], by first | rfl | (simp only [roundX, zipKeep, fin_nums_take_J0, List.length_set, List.length_append, List.length_replicate, List.length_cons, List.length_nil, Nat.add_zero, Nat.zero_add]; done) | simp [roundX, zipKeep, fin_nums_take_J0]⟩
      · have h := cond_f hb h
        obtain rfl := Option.some.inj h
        exact ⟨rfl, by first | rfl | (simp only [roundX, zipKeep, fin_nums_take_J0, List.length_set, List.length_append, List.length_replicate, List.length_cons, List.length_nil, Nat.add_zero, Nat.zero_add]; done) | simp [roundX, zipKeep, fin_nums_take_J0], by first | rfl | (simp only [roundX, zipKeep, fin_nums_take_J0, List.length_set, List.length_append, List.length_replicate, List.length_cons, List.length_nil, Nat.add_zero, Nat.zero_add]; done) | simp [roundX, zipKeep, fin_nums_take_J0]⟩
    · have h := cond_f hb h
      obtain rfl := Option.some.inj h
      exact ⟨rfl, by first | rfl | (simp only [roundX, zipKeep, fin_nums_take_J0, List.length_set, List.length_append, List.length_replicate, List.length_cons, List.length_nil, Nat.add_zero, Nat.zero_add]; done) | simp [roundX, zipKeep, fin_nums_take_J0], by first | rfl | (simp only [roundX, zipKeep, fin_nums_take_J0, List.length_set, List.length_append, List.length_replicate, List.length_cons, List.length_nil, Nat.add_zero, Nat.zero_add]; done) | simp [roundX, zipKeep, fin_nums_take_J0]⟩

def st_nums_take_L1 (p_b : List UInt8) (x1 : Int) (s6 : Int × Int) : List AV × WH := ([(l_B p_b), (.int .i64 s6.1), (.int .i64 x1), (.int .i64 s6.2)], [])
def fin_nums_take_L1 (p_b : List UInt8) (x1 : Int) : Int → Ex × Fast × WH := fun e => ((.exit 0), [(2, (.int .i64 e)), (5, (.int .i64 x1))], [])
def nums_take_L1_s (p_b : List UInt8) (x1 : Int) (s6 : Int × Int) : Option ((Int × Int) ⊕ (Int)) :=
  cond (decide (s6.2 ≥ 0)) ((getI p_b s6.2).bind fun (x7 : UInt8) => some (.inl ((orI .i64 (shlV .i64 s6.1 7) (IntKind.i64.wrap ((u8w (andI .u8 (x7.toNat : Int) 127)).toNat : Int))), (IntKind.i64.wrap (s6.2 - 1))))) (some (.inr s6.1))
def nums_take_L1 (p_b : List UInt8) (x1 : Int) (s6 : Int × Int) : Option (Int) := loopX (nums_take_L1_s p_b x1) KK s6
theorem b_nums_take_L1 (d : Nat) {p_b : List UInt8} {x1 : Int} {s6 : Int × Int} {r : (Int × Int) ⊕ (Int)} (h : nums_take_L1_s p_b x1 s6 = some r) : RunS (bexec (wcalls atab (d + 0)) KK 47 WB133_0) 0 [(0, (l_B p_b)), (2, (.int .i64 s6.1)), (5, (.int .i64 x1)), (6, (.int .i64 s6.2))] [] (roundX [0, 2, 5, 6] (st_nums_take_L1 p_b x1) (fin_nums_take_L1 p_b x1) r).1 (roundX [0, 2, 5, 6] (st_nums_take_L1 p_b x1) (fin_nums_take_L1 p_b x1) r).2.1 (roundX [0, 2, 5, 6] (st_nums_take_L1 p_b x1) (fin_nums_take_L1 p_b x1) r).2.2 := by
  obtain ⟨x7, hx7⟩ : ∃ x : UInt8, x = (getI p_b s6.2).getD default := ⟨_, rfl⟩
  have e : ∀ C : ACalls, wCode C (fun _ => none) KK 47 0 WB133_0 [(0, (l_B p_b)), (2, (.int .i64 s6.1)), (5, (.int .i64 x1)), (6, (.int .i64 s6.2))] [] (.br 26 (.v 33 (.elem ([(byteC x7)] ++ F_B (p_b.drop (s6.2.toNat + 1)))) (.v 35 (.int .u8 ((u8w (andI .u8 (x7.toNat : Int) 127)).toNat : Int)) (.en [0, 2, 5, 6] [none, none, none, none] [] []))) (.en [2, 5] [none, none] [] [])) (roundX [0, 2, 5, 6] (st_nums_take_L1 p_b x1) (fin_nums_take_L1 p_b x1) r) = (((decide (s6.2 ≥ 0)) = true → (wP (.idxSlice 1 (.c (l_B p_b)) (.c (.int .i64 s6.2))) = some (.elem ([(byteC x7)] ++ F_B (p_b.drop (s6.2.toNat + 1)))) ∧ (@Eq (Option AV) (some (.int .u8 (andI .u8 (x7.toNat : Int) 127))) (some (.int .u8 ((u8w (andI .u8 (x7.toNat : Int) 127)).toNat : Int))) ∧ (.normal = (roundX [0, 2, 5, 6] (st_nums_take_L1 p_b x1) (fin_nums_take_L1 p_b x1) r).1 ∧ [(0, (l_B p_b)), (2, (.int .i64 (orI .i64 (shlV .i64 s6.1 7) (IntKind.i64.wrap ((u8w (andI .u8 (x7.toNat : Int) 127)).toNat : Int))))), (5, (.int .i64 x1)), (6, (.int .i64 (IntKind.i64.wrap (s6.2 - 1))))] = (roundX [0, 2, 5, 6] (st_nums_take_L1 p_b x1) (fin_nums_take_L1 p_b x1) r).2.1 ∧ [] = (roundX [0, 2, 5, 6] (st_nums_take_L1 p_b x1) (fin_nums_take_L1 p_b x1) r).2.2)))) ∧ ((decide (s6.2 ≥ 0)) = false → ((.exit 0) = (roundX [0, 2, 5, 6] (st_nums_take_L1 p_b x1) (fin_nums_take_L1 p_b x1) r).1 ∧ [(2, (.int .i64 s6.1)), (5, (.int .i64 x1))] = (roundX [0, 2, 5, 6] (st_nums_take_L1 p_b x1) (fin_nums_take_L1 p_b x1) r).2.1 ∧ [] = (roundX [0, 2, 5, 6] (st_nums_take_L1 p_b x1) (fin_nums_take_L1 p_b x1) r).2.2))) := fun C => by kernel_rfl
  refine runS_of (fun _ _ h => by cases h) WB133_0_ok (Nat.le_of_ble_eq_true rfl) ((e _).mpr ?_)
  unfold nums_take_L1_s at h
  refine ⟨fun hb => ?_, fun hb => ?_⟩
  · have h := cond_t hb h
    obtain ⟨q7, h⟩ := bget hx7 h
    refine ⟨wP_idx R_B q7, ?_⟩
    refine ⟨u8_of rfl, ?_⟩
    obtain rfl := Option.some.inj h
    exact ⟨rfl, by first | rfl | (simp only [roundX, zipKeep, fin_nums_take_L1, st_nums_take_L1, List.length_set, List.length_append, List.length_replicate, List.length_cons, List.length_nil, Nat.add_zero, Nat.zero_add]; done) | simp [roundX, zipKeep, fin_nums_take_L1, st_nums_take_L1], by first | rfl | (simp only [roundX, zipKeep, fin_nums_take_L1, st_nums_take_L1, List.length_set, List.length_append, List.length_replicate, List.length_cons, List.length_nil, Nat.add_zero, Nat.zero_add]; done) | simp [roundX, zipKeep, fin_nums_take_L1, st_nums_take_L1]⟩
  · have h := cond_f hb h
    obtain rfl := Option.some.inj h
    exact ⟨rfl, by first | rfl | (simp only [roundX, zipKeep, fin_nums_take_L1, st_nums_take_L1, List.length_set, List.length_append, List.length_replicate, List.length_cons, List.length_nil, Nat.add_zero, Nat.zero_add]; done) | simp [roundX, zipKeep, fin_nums_take_L1, st_nums_take_L1], by first | rfl | (simp only [roundX, zipKeep, fin_nums_take_L1, st_nums_take_L1, List.length_set, List.length_append, List.length_replicate, List.length_cons, List.length_nil, Nat.add_zero, Nat.zero_add]; done) | simp [roundX, zipKeep, fin_nums_take_L1, st_nums_take_L1]⟩
theorem s_nums_take_L1 (d : Nat) {p_b : List UInt8} {x1 : Int} {s6 : Int × Int} {r : Int} (h : nums_take_L1 p_b x1 s6 = some r) : RunS (bloop (bexec (wcalls atab (d + 0)) KK 47 WB133_0) [0, 2, 5, 6] KK) 0 [(0, (l_B p_b)), (2, (.int .i64 s6.1)), (5, (.int .i64 x1)), (6, (.int .i64 s6.2))] [] (fin_nums_take_L1 p_b x1 r).1 (fin_nums_take_L1 p_b x1 r).2.1 (fin_nums_take_L1 p_b x1 r).2.2 :=
  loop_of (st := st_nums_take_L1 p_b x1) (fin := fin_nums_take_L1 p_b x1) (step := nums_take_L1_s p_b x1) (fun e => by (intro h; cases h)) (fun s x h => b_nums_take_L1 d h) KK s6 r h

def fin_nums_take_J2 (x8 : Int) (x1 : Int) : Unit ⊕ Unit → Ex × Fast × WH := fun
  | .inl e => (.ret, [(2, (.int .i64 0)), (3, (.int .i64 0)), (4, (.int .i64 2))], [])
  | .inr e => (.normal, [(2, (.int .i64 x8)), (5, (.int .i64 x1))], [])
def nums_take_J2 (x8 : Int) (x1 : Int) : Option (Unit ⊕ Unit) :=
  cond (decide (x8 < 0)) (some (.inl ())) (cond (decide (x8 > 4611686018427387903)) (some (.inl ())) (some (.inr ())))
theorem s_nums_take_J2 (d : Nat) {x8 : Int} {x1 : Int} {r : Unit ⊕ Unit} (h : nums_take_J2 x8 x1 = some r) : RunS (bexec (wcalls atab (d + 0)) KK 47 WJ133_bbbbba) 0 [(2, (.int .i64 x8)), (5, (.int .i64 x1))] [] (fin_nums_take_J2 x8 x1 r).1 (fin_nums_take_J2 x8 x1 r).2.1 (fin_nums_take_J2 x8 x1 r).2.2 := by
  have e : ∀ C : ACalls, wCode C (fun _ => none) KK 47 0 WJ133_bbbbba [(2, (.int .i64 x8)), (5, (.int .i64 x1))] [] (.br 40 (.en [2, 3, 4] [none, none, none] [] []) (.br 43 (.en [2, 3, 4] [none, none, none] [] []) (.en [2, 5] [none, none] [] []))) (fin_nums_take_J2 x8 x1 r) = (((decide (x8 < 0)) = true → (.ret = (fin_nums_take_J2 x8 x1 r).1 ∧ [(2, (.int .i64 0)), (3, (.int .i64 0)), (4, (.int .i64 2))] = (fin_nums_take_J2 x8 x1 r).2.1 ∧ [] = (fin_nums_take_J2 x8 x1 r).2.2)) ∧ ((decide (x8 < 0)) = false → (((decide (x8 > 4611686018427387903)) = true → (.ret = (fin_nums_take_J2 x8 x1 r).1 ∧ [(2, (.int .i64 0)), (3, (.int .i64 0)), (4, (.int .i64 2))] = (fin_nums_take_J2 x8 x1 r).2.1 ∧ [] = (fin_nums_take_J2 x8 x1 r).2.2)) ∧ ((decide (x8 > 4611686018427387903)) = false → (.normal = (fin_nums_take_J2 x8 x1 r).1 ∧ [(2, (.int .i64 x8)), (5, (.int .i64 x1))] = (fin_nums_take_J2 x8 x1 r).2.1 ∧ [] = (fin_nums_take_J2 x8 x1 r).2.2))))) := fun C => by kernel_rfl
  refine runS_of (fun _ _ h => by cases h) WJ133_bbbbba_ok (Nat.le_of_ble_eq_true rfl) ((e _).mpr ?_)
  unfold nums_take_J2 at h
  refine ⟨fun hb => ?_, fun hb => ?_⟩
  · have h := cond_t hb h
    obtain rfl := Option.some.inj h
    exact ⟨rfl, by first | rfl | (simp only [roundX, zipKeep, fin_nums_take_J2, List.length_set, List.length_append, List.length_replicate, List.length_cons, List.length_nil, Nat.add_zero, Nat.zero_add]; done) | simp [roundX, zipKeep, fin_nums_take_J2], by first | rfl | (simp only [roundX, zipKeep, fin_nums_take_J2, List.length_set, List.length_append, List.length_replicate, List.length_cons, List.length_nil, Nat.add_zero, Nat.zero_add]; done) | simp [roundX, zipKeep, fin_nums_take_J2]⟩
  · have h := cond_f hb h
    refine ⟨fun hb => ?_, fun hb => ?_⟩
    · have h := cond_t hb h
      obtain rfl := Option.some.inj h
      exact ⟨rfl, by first | rfl | (simp only [roundX, zipKeep, fin_nums_take_J2, List.length_set, List.length_append, List.length_replicate, List.length_cons, List.length_nil, Nat.add_zero, Nat.zero_add]; done) | simp [roundX, zipKeep, fin_nums_take_J2], by first | rfl | (simp only [roundX, zipKeep, fin_nums_take_J2, List.length_set, List.length_append, List.length_replicate, List.length_cons, List.length_nil, Nat.add_zero, Nat.zero_add]; done) | simp [roundX, zipKeep, fin_nums_take_J2]⟩
    · have h := cond_f hb h
      obtain rfl := Option.some.inj h
      exact ⟨rfl, by first | rfl | (simp only [roundX, zipKeep, fin_nums_take_J2, List.length_set, List.length_append, List.length_replicate, List.length_cons, List.length_nil, Nat.add_zero, Nat.zero_add]; done) | simp [roundX, zipKeep, fin_nums_take_J2], by first | rfl | (simp only [roundX, zipKeep, fin_nums_take_J2, List.length_set, List.length_append, List.length_replicate, List.length_cons, List.length_nil, Nat.add_zero, Nat.zero_add]; done) | simp [roundX, zipKeep, fin_nums_take_J2]⟩

def nums_take (p_b : List UInt8) : Option (Int × Int × Int) :=
  (slices_IndexFunc_byte_byte p_b).bind fun (x1 : Int) => cond (decide (x1 < 0)) (some (0, 0, 3)) ((nums_take_J0 x1 p_b).bind fun (x3 : Unit ⊕ Unit) => cond (isL x3) (some (0, 0, 2)) ((nums_take_L1 p_b x1 (0, x1)).bind fun (x8 : Int) => (nums_take_J2 x8 x1).bind fun (x9 : Unit ⊕ Unit) => cond (isL x9) (some (0, 0, 2)) (some (x8, (IntKind.i64.wrap (x1 + 1)), 0))))

theorem s_nums_take (d : Nat) {p_b : List UInt8} {r : Int × Int × Int} (h : nums_take p_b = some r) : Spec (wcalls atab (d + 3)) 133 [(l_B p_b)] [] (.tuple [(.int .i64 r.1), (.int .i64 r.2.1), (.int .i64 r.2.2)]) [] := by
  obtain ⟨x1, hx1⟩ : ∃ x : Int, x = (slices_IndexFunc_byte_byte p_b).getD default := ⟨_, rfl⟩
  obtain ⟨x3, hx3⟩ : ∃ x : Unit ⊕ Unit, x = (nums_take_J0 x1 p_b).getD default := ⟨_, rfl⟩
  obtain ⟨x8, hx8⟩ : ∃ x : Int, x = (nums_take_L1 p_b x1 (0, x1)).getD default := ⟨_, rfl⟩
  obtain ⟨x9, hx9⟩ : ∃ x : Unit ⊕ Unit, x = (nums_take_J2 x8 x1).getD default := ⟨_, rfl⟩
  have e : ∀ C : ACalls, wBody C (fun _ => none) KK WF133 [(l_B p_b)] [] (.cb [] [] (.int .i64 x1) (.br 10 (.fin (some false) [] none) (.ite (isL x3) (.jn [0, 2, 5] [none, none, none] [] [] .ret [(2, (.int .i64 0)), (3, (.int .i64 0)), (4, (.int .i64 2))] [] (.fin (some false) [] none)) (.jn [0, 2, 5] [none, none, none] [] [] .normal [(0, (l_B p_b)), (2, (.int .i64 0)), (5, (.int .i64 x1))] [] (.lp [none, none, none, none] [] [] (.exit 0) [(2, (.int .i64 x8)), (5, (.int .i64 x1))] [] (.ite (isL x9) (.jn [2, 5] [none, none] [] [] .ret [(2, (.int .i64 0)), (3, (.int .i64 0)), (4, (.int .i64 2))] [] (.fin (some false) [] none)) (.jn [2, 5] [none, none] [] [] .normal [(2, (.int .i64 x8)), (5, (.int .i64 x1))] [] (.fin (some false) [] none)))))))) (.tuple [(.int .i64 r.1), (.int .i64 r.2.1), (.int .i64 r.2.2)]) [] = (1 = 1 ∧ 1 ≤ 47 ∧ (Spec C 139 [(l_B p_b), (.func 140 [])] [] (.int .i64 x1) [] ∧ (((decide (x1 < 0)) = true → (@Eq AV (.tuple [(.int .i64 0), (.int .i64 0), (.int .i64 3)]) (.tuple [(.int .i64 r.1), (.int .i64 r.2.1), (.int .i64 r.2.2)]) ∧ @Eq WH [] [])) ∧ ((decide (x1 < 0)) = false → (((isL x3) = true → (RunS (bexec C KK 47 WJ133_bbba) 0 [(0, (l_B p_b)), (2, (.int .i64 0)), (5, (.int .i64 x1))] [] .ret [(2, (.int .i64 0)), (3, (.int .i64 0)), (4, (.int .i64 2))] [] ∧ (@Eq AV (.tuple [(.int .i64 0), (.int .i64 0), (.int .i64 2)]) (.tuple [(.int .i64 r.1), (.int .i64 r.2.1), (.int .i64 r.2.2)]) ∧ @Eq WH [] []))) ∧ ((isL x3) = false → (RunS (bexec C KK 47 WJ133_bbba) 0 [(0, (l_B p_b)), (2, (.int .i64 0)), (5, (.int .i64 x1))] [] .normal [(0, (l_B p_b)), (2, (.int .i64 0)), (5, (.int .i64 x1))] [] ∧ (RunS (bloop (bexec C KK 47 WB133_0) [0, 2, 5, 6] KK) 0 [(0, (l_B p_b)), (2, (.int .i64 0)), (5, (.int .i64 x1)), (6, (.int .i64 x1))] [] (.exit 0) [(2, (.int .i64 x8)), (5, (.int .i64 x1))] [] ∧ (((isL x9) = true → (RunS (bexec C KK 47 WJ133_bbbbba) 0 [(2, (.int .i64 x8)), (5, (.int .i64 x1))] [] .ret [(2, (.int .i64 0)), (3, (.int .i64 0)), (4, (.int .i64 2))] [] ∧ (@Eq AV (.tuple [(.int .i64 0), (.int .i64 0), (.int .i64 2)]) (.tuple [(.int .i64 r.1), (.int .i64 r.2.1), (.int .i64 r.2.2)]) ∧ @Eq WH [] []))) ∧ ((isL x9) = false → (RunS (bexec C KK 47 WJ133_bbbbba) 0 [(2, (.int .i64 x8)), (5, (.int .i64 x1))] [] .normal [(2, (.int .i64 x8)), (5, (.int .i64 x1))] [] ∧ (@Eq AV (.tuple [(.int .i64 x8), (.int .i64 (IntKind.i64.wrap (x1 + 1))), (.int .i64 0)]) (.tuple [(.int .i64 r.1), (.int .i64 r.2.1), (.int .i64 r.2.2)]) ∧ @Eq WH [] [])))))))))))) := fun C => by kernel_rfl
  refine spec_of (fun _ _ h => by cases h) rfl atab_133 WF133_ok ((e _).mpr ⟨rfl, by decide, ?_⟩)
  unfold nums_take at h
  obtain ⟨q1, h⟩ := bget hx1 h
  refine ⟨s_slices_IndexFunc_byte_byte (d + 0) q1, ?_⟩
  refine ⟨fun hb => ?_, fun hb => ?_⟩
  · have h := cond_t hb h
    obtain rfl := Option.some.inj h
    exact ⟨by wleaf, by wleaf⟩
  · have h := cond_f hb h
    obtain ⟨q3, h⟩ := bget hx3 h
    refine ⟨fun hb4 => ?_, fun hb4 => ?_⟩
    · have h := cond_t hb4 h
      refine ⟨by have h := s_nums_take_J0 (d + 2) q3; rw [isL_t hb4] at h; exact h, ?_⟩
      obtain rfl := Option.some.inj h
      exact ⟨by wleaf, by wleaf⟩
    · have h := cond_f hb4 h
      refine ⟨by have h := s_nums_take_J0 (d + 2) q3; rw [isL_f hb4] at h; exact h, ?_⟩
      obtain ⟨q8, h⟩ := bget hx8 h
      refine ⟨s_nums_take_L1 (d + 2) q8, ?_⟩
      obtain ⟨q9, h⟩ := bget hx9 h
      refine ⟨fun hb10 => ?_, fun hb10 => ?_⟩
      · have h := cond_t hb10 h
        refine ⟨by have h := s_nums_take_J2 (d + 2) q9; rw [isL_t hb10] at h; exact h, ?_⟩
        obtain rfl := Option.some.inj h
        exact ⟨by wleaf, by wleaf⟩
      · have h := cond_f hb10 h
        refine ⟨by have h := s_nums_take_J2 (d + 2) q9; rw [isL_f hb10] at h; exact h, ?_⟩
        obtain rfl := Option.some.inj h
        exact ⟨by wleaf, by wleaf⟩

/- osmosis/nums.own -/
def nums_own (p_b : List UInt8) : Option (List UInt8) :=
  gd (fitsB 1 p_b.length) (some p_b)

theorem s_nums_own (d : Nat) {p_b : List UInt8} {r : List UInt8} (h : nums_own p_b = some r) : Spec (wcalls atab (d + 2)) 134 [(l_B p_b)] [] (l_B r) [] := by
  have e : ∀ C : ACalls, wBody C wB KK WF134 [(l_B p_b)] [] (.fin (some false) [] none) (l_B r) [] = (1 = 1 ∧ 1 ≤ 6 ∧ (fitsB 1 p_b.length = true ∧ (@Eq AV (l_B p_b) (l_B r) ∧ @Eq WH [] []))) := fun C => by kernel_rfl
  refine spec_of (wB_ok _) rfl atab_134 WF134_ok ((e _).mpr ⟨rfl, by decide, ?_⟩)
  unfold nums_own at h
  obtain ⟨q1, h⟩ := gd_some h
  refine ⟨q1, ?_⟩
  obtain rfl := Option.some.inj h
  exact ⟨by wleaf, by wleaf⟩

/- osmosis/nums.Take -/
def nums_Take (p_b : List UInt8) : Option (Int × List UInt8 × Int) :=
  (nums_take p_b).bind fun (x1 : Int × Int × Int) => cond (x1.2.2 != 0) (some (0, [], x1.2.2)) ((slI p_b x1.2.1 p_b.length).bind fun (x2 : List UInt8) => (nums_own x2).bind fun (x3 : List UInt8) => some (x1.1, x3, 0))

theorem s_nums_Take (d : Nat) {p_b : List UInt8} {r : Int × List UInt8 × Int} (h : nums_Take p_b = some r) : Spec (wcalls atab (d + 4)) 119 [(l_B p_b)] [] (.tuple [(.int .i64 r.1), (l_B r.2.1), (.int .i64 r.2.2)]) [] := by
  obtain ⟨x1, hx1⟩ : ∃ x : Int × Int × Int, x = (nums_take p_b).getD default := ⟨_, rfl⟩
  obtain ⟨x2, hx2⟩ : ∃ x : List UInt8, x = (slI p_b x1.2.1 p_b.length).getD default := ⟨_, rfl⟩
  obtain ⟨x3, hx3⟩ : ∃ x : List UInt8, x = (nums_own x2).getD default := ⟨_, rfl⟩
  have e : ∀ C : ACalls, wBody C (fun _ => none) KK WF119 [(l_B p_b)] [] (.cb [] [] (.tuple [(.int .i64 x1.1), (.int .i64 x1.2.1), (.int .i64 x1.2.2)]) (.br 13 (.fin (some false) [] none) (.v 18 (l_B x2) (.call [] (some false) [] (l_B x3) [] (.fin (some false) [] none))))) (.tuple [(.int .i64 r.1), (l_B r.2.1), (.int .i64 r.2.2)]) [] = (1 = 1 ∧ 1 ≤ 20 ∧ (Spec C 133 [(l_B p_b)] [] (.tuple [(.int .i64 x1.1), (.int .i64 x1.2.1), (.int .i64 x1.2.2)]) [] ∧ (((x1.2.2 != 0) = true → (@Eq AV (.tuple [(.int .i64 0), (l_B []), (.int .i64 x1.2.2)]) (.tuple [(.int .i64 r.1), (l_B r.2.1), (.int .i64 r.2.2)]) ∧ @Eq WH [] [])) ∧ ((x1.2.2 != 0) = false → (wP (.slice 1 (.c (l_B p_b)) (some (.c (.int .i64 x1.2.1))) none none) = some (l_B x2) ∧ (Spec C 134 [(l_B x2)] [] (l_B x3) [] ∧ (0 ≤ 0 ∧ (@Eq AV (.tuple [(.int .i64 x1.1), (l_B x3), (.int .i64 0)]) (.tuple [(.int .i64 r.1), (l_B r.2.1), (.int .i64 r.2.2)]) ∧ @Eq WH [] [])))))))) := fun C => by kernel_rfl
  refine spec_of (fun _ _ h => by cases h) rfl atab_119 WF119_ok ((e _).mpr ⟨rfl, by decide, ?_⟩)
  unfold nums_Take at h
  obtain ⟨q1, h⟩ := bget hx1 h
  refine ⟨s_nums_take (d + 0) q1, ?_⟩
  refine ⟨fun hb => ?_, fun hb => ?_⟩
  · have h := cond_t hb h
    obtain rfl := Option.some.inj h
    exact ⟨by wleaf, by wleaf⟩
  · have h := cond_f hb h
    obtain ⟨q2, h⟩ := bget hx2 h
    refine ⟨wP_sl_l R_B q2, ?_⟩
    obtain ⟨q3, h⟩ := bget hx3 h
    refine ⟨s_nums_own (d + 1) q3, ?_⟩
    refine ⟨by decide, ?_⟩
    obtain rfl := Option.some.inj h
    exact ⟨by wleaf, by wleaf⟩

end Go.Proofs.Ytachollgbplikaa
