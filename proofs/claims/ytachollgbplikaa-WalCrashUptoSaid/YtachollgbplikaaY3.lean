/- Functions as Lean functions, part 3. -/
import Derived.Test.YtachollgbplikaaXt
import Derived.Test.YtachollgbplikaaXs
import Derived.Test.YtachollgbplikaaY2
set_option linter.all false
set_option maxRecDepth 100000
namespace Go.Proofs.Ytachollgbplikaa
/- osmosis/osmosislaw5.some -/
def fin_osmosislaw5_some_J0 (s11 : Int × List (List UInt8)) (l : List (List UInt8)) : Unit ⊕ Unit → Ex × Fast × WH := fun
  | .inl e => (.normal, [(0, (l_LB l)), (3, (.acc 0 0 1 s11.2.length true)), (4, (.int .i64 s11.1))], [(some (.cells (F_LB s11.2) false true))])
  | .inr e => ((.exit 0), [(3, (.acc 0 0 1 s11.2.length true))], [(some (.cells (F_LB s11.2) false true))])
def osmosislaw5_some_J0 (s11 : Int × List (List UInt8)) (l : List (List UInt8)) : Option (Unit ⊕ Unit) :=
  cond (decide (s11.1 < (l.length : Int))) (cond (decide (s11.1 < 5)) (some (.inl ())) (some (.inr ()))) (some (.inr ()))
theorem s_osmosislaw5_some_J0 (d : Nat) {s11 : Int × List (List UInt8)} {l : List (List UInt8)} {r : Unit ⊕ Unit} (h : osmosislaw5_some_J0 s11 l = some r) : RunS (bexec (wcalls atab (d + 0)) KK 24 WJ33_bbabkla) 0 [(0, (l_LB l)), (3, (.acc 0 0 1 s11.2.length true)), (4, (.int .i64 s11.1))] [(some (.cells (F_LB s11.2) false true))] (fin_osmosislaw5_some_J0 s11 l r).1 (fin_osmosislaw5_some_J0 s11 l r).2.1 (fin_osmosislaw5_some_J0 s11 l r).2.2 := by
  have e : ∀ C : ACalls, wCode C (fun _ => none) KK 24 0 WJ33_bbabkla [(0, (l_LB l)), (3, (.acc 0 0 1 s11.2.length true)), (4, (.int .i64 s11.1))] [(some (.cells (F_LB s11.2) false true))] (.br 9 (.br 12 (.en [0, 3, 4] [none, none, none] [] []) (.en [3] [none] [] [])) (.en [3] [none] [] [])) (fin_osmosislaw5_some_J0 s11 l r) = (((decide (s11.1 < (l.length : Int))) = true → (((decide (s11.1 < 5)) = true → (.normal = (fin_osmosislaw5_some_J0 s11 l r).1 ∧ [(0, (l_LB l)), (3, (.acc 0 0 1 s11.2.length true)), (4, (.int .i64 s11.1))] = (fin_osmosislaw5_some_J0 s11 l r).2.1 ∧ [(some (.cells (F_LB s11.2) false true))] = (fin_osmosislaw5_some_J0 s11 l r).2.2)) ∧ ((decide (s11.1 < 5)) = false → ((.exit 0) = (fin_osmosislaw5_some_J0 s11 l r).1 ∧ [(3, (.acc 0 0 1 s11.2.length true))] = (fin_osmosislaw5_some_J0 s11 l r).2.1 ∧ [(some (.cells (F_LB s11.2) false true))] = (fin_osmosislaw5_some_J0 s11 l r).2.2)))) ∧ ((decide (s11.1 < (l.length : Int))) = false → ((.exit 0) = (fin_osmosislaw5_some_J0 s11 l r).1 ∧ [(3, (.acc 0 0 1 s11.2.length true))] = (fin_osmosislaw5_some_J0 s11 l r).2.1 ∧ [(some (.cells (F_LB s11.2) false true))] = (fin_osmosislaw5_some_J0 s11 l r).2.2))) := fun C => by kernel_rfl
  refine runS_of (fun _ _ h => by cases h) WJ33_bbabkla_ok (Nat.le_of_ble_eq_true rfl) ((e _).mpr ?_)
  unfold osmosislaw5_some_J0 at h
  refine ⟨fun hb => ?_, fun hb => ?_⟩
  · have h := cond_t hb h
    refine ⟨fun hb => ?_, fun hb => ?_⟩
    · have h := cond_t hb h
      obtain rfl := Option.some.inj h
      exact ⟨rfl, by first | rfl | (simp only [roundX, zipKeep, fin_osmosislaw5_some_J0, List.length_set, List.length_append, List.length_replicate, List.length_cons, List.length_nil, Nat.add_zero, Nat.zero_add]; done) | simp [roundX, zipKeep, fin_osmosislaw5_some_J0], by first | rfl | (simp only [roundX, zipKeep, fin_osmosislaw5_some_J0, List.length_set, List.length_append, List.length_replicate, List.length_cons, List.length_nil, Nat.add_zero, Nat.zero_add]; done) | simp [roundX, zipKeep, fin_osmosislaw5_some_J0]⟩
    · have h := cond_f hb h
      obtain rfl := Option.some.inj h
      exact ⟨rfl, by first | rfl | (simp only [roundX, zipKeep, fin_osmosislaw5_some_J0, List.length_set, List.length_append, List.length_replicate, List.length_cons, List.length_nil, Nat.add_zero, Nat.zero_add]; done) | simp [roundX, zipKeep, fin_osmosislaw5_some_J0], by first | rfl | (simp only [roundX, zipKeep, fin_osmosislaw5_some_J0, List.length_set, List.length_append, List.length_replicate, List.length_cons, List.length_nil, Nat.add_zero, Nat.zero_add]; done) | simp [roundX, zipKeep, fin_osmosislaw5_some_J0]⟩
  · have h := cond_f hb h
    obtain rfl := Option.some.inj h
    exact ⟨rfl, by first | rfl | (simp only [roundX, zipKeep, fin_osmosislaw5_some_J0, List.length_set, List.length_append, List.length_replicate, List.length_cons, List.length_nil, Nat.add_zero, Nat.zero_add]; done) | simp [roundX, zipKeep, fin_osmosislaw5_some_J0], by first | rfl | (simp only [roundX, zipKeep, fin_osmosislaw5_some_J0, List.length_set, List.length_append, List.length_replicate, List.length_cons, List.length_nil, Nat.add_zero, Nat.zero_add]; done) | simp [roundX, zipKeep, fin_osmosislaw5_some_J0]⟩

def st_osmosislaw5_some_L1 (l : List (List UInt8)) (s11 : Int × List (List UInt8)) : List AV × WH := ([(l_LB l), (.acc 0 0 1 s11.2.length true), (.int .i64 s11.1)], [(some (.cells (F_LB s11.2) false true))])
def fin_osmosislaw5_some_L1 (l : List (List UInt8)) : (List (List UInt8)) → Ex × Fast × WH := fun e => ((.exit 0), [(3, (.acc 0 0 1 e.length true))], [(some (.cells (F_LB e) false true))])
def osmosislaw5_some_L1_s (l : List (List UInt8)) (s11 : Int × List (List UInt8)) : Option ((Int × List (List UInt8)) ⊕ ((List (List UInt8)))) :=
  (osmosislaw5_some_J0 s11 l).bind fun (x12 : Unit ⊕ Unit) => cond (isL x12) ((getI l s11.1).bind fun (x14 : List UInt8) => (osmosishand_Few x14 60).bind fun (x15 : List UInt8) => gd (fitsB 24 (s11.2 ++ [x15]).length) (some (.inl ((IntKind.i64.wrap (s11.1 + 1)), (s11.2 ++ [x15]))))) (some (.inr s11.2))
def osmosislaw5_some_L1 (l : List (List UInt8)) (s11 : Int × List (List UInt8)) : Option ((List (List UInt8))) := loopX (osmosislaw5_some_L1_s l) KK s11
theorem b_osmosislaw5_some_L1 (d : Nat) {l : List (List UInt8)} {s11 : Int × List (List UInt8)} {r : (Int × List (List UInt8)) ⊕ ((List (List UInt8)))} (h : osmosislaw5_some_L1_s l s11 = some r) : RunS (bexec (wcalls atab (d + 1)) KK 24 WB33_0) 0 [(0, (l_LB l)), (3, (.acc 0 0 1 s11.2.length true)), (4, (.int .i64 s11.1))] [(some (.cells (F_LB s11.2) false true))] (roundX [0, 3, 4] (st_osmosislaw5_some_L1 l) (fin_osmosislaw5_some_L1 l) r).1 (roundX [0, 3, 4] (st_osmosislaw5_some_L1 l) (fin_osmosislaw5_some_L1 l) r).2.1 (roundX [0, 3, 4] (st_osmosislaw5_some_L1 l) (fin_osmosislaw5_some_L1 l) r).2.2 := by
  obtain ⟨x12, hx12⟩ : ∃ x : Unit ⊕ Unit, x = (osmosislaw5_some_J0 s11 l).getD default := ⟨_, rfl⟩
  obtain ⟨x14, hx14⟩ : ∃ x : List UInt8, x = (getI l s11.1).getD default := ⟨_, rfl⟩
  obtain ⟨x15, hx15⟩ : ∃ x : List UInt8, x = (osmosishand_Few x14 60).getD default := ⟨_, rfl⟩
  have e : ∀ C : ACalls, wCode C (fun _ => none) KK 24 0 WB33_0 [(0, (l_LB l)), (3, (.acc 0 0 1 s11.2.length true)), (4, (.int .i64 s11.1))] [(some (.cells (F_LB s11.2) false true))] (.ite (isL x12) (.jn [0, 3, 4] [none, none, none] [] [] .normal [(0, (l_LB l)), (3, (.acc 0 0 1 s11.2.length true)), (4, (.int .i64 s11.1))] [(some (.cells (F_LB s11.2) false true))] (.v 18 (.elem ([(l_B x14)] ++ F_LB (l.drop (s11.1.toNat + 1)))) (.call [] (some false) [] (l_B x15) [] (.ap 22 (s11.2 ++ [x15]).length (F_LB (s11.2 ++ [x15])) (.en [0, 3, 4] [none, none, none] [] []))))) (.jn [0, 3, 4] [none, none, none] [] [] (.exit 0) [(3, (.acc 0 0 1 s11.2.length true))] [(some (.cells (F_LB s11.2) false true))] (.en [3] [none] [] []))) (roundX [0, 3, 4] (st_osmosislaw5_some_L1 l) (fin_osmosislaw5_some_L1 l) r) = (((isL x12) = true → (RunS (bexec C KK 24 WJ33_bbabkla) 0 [(0, (l_LB l)), (3, (.acc 0 0 1 s11.2.length true)), (4, (.int .i64 s11.1))] [(some (.cells (F_LB s11.2) false true))] .normal [(0, (l_LB l)), (3, (.acc 0 0 1 s11.2.length true)), (4, (.int .i64 s11.1))] [(some (.cells (F_LB s11.2) false true))] ∧ (wP (.idxSlice 1 (.c (l_LB l)) (.c (.int .i64 s11.1))) = some (.elem ([(l_B x14)] ++ F_LB (l.drop (s11.1.toNat + 1)))) ∧ (Spec C 34 [(l_B x14), (.int .i64 60)] [] (l_B x15) [] ∧ (0 ≤ 0 ∧ (s11.2.length + 1 = (s11.2 ++ [x15]).length ∧ (F_LB s11.2 ++ F_LB [x15] = F_LB (s11.2 ++ [x15]) ∧ (fitsB 24 (s11.2 ++ [x15]).length = true ∧ (.normal = (roundX [0, 3, 4] (st_osmosislaw5_some_L1 l) (fin_osmosislaw5_some_L1 l) r).1 ∧ [(0, (l_LB l)), (3, (.acc 0 0 1 ((s11.2 ++ [x15]).length) true)), (4, (.int .i64 (IntKind.i64.wrap (s11.1 + 1))))] = (roundX [0, 3, 4] (st_osmosislaw5_some_L1 l) (fin_osmosislaw5_some_L1 l) r).2.1 ∧ [(some (.cells (F_LB (s11.2 ++ [x15])) false true))] = (roundX [0, 3, 4] (st_osmosislaw5_some_L1 l) (fin_osmosislaw5_some_L1 l) r).2.2))))))))) ∧ ((isL x12) = false → (RunS (bexec C KK 24 WJ33_bbabkla) 0 [(0, (l_LB l)), (3, (.acc 0 0 1 s11.2.length true)), (4, (.int .i64 s11.1))] [(some (.cells (F_LB s11.2) false true))] (.exit 0) [(3, (.acc 0 0 1 s11.2.length true))] [(some (.cells (F_LB s11.2) false true))] ∧ ((.exit 0) = (roundX [0, 3, 4] (st_osmosislaw5_some_L1 l) (fin_osmosislaw5_some_L1 l) r).1 ∧ [(3, (.acc 0 0 1 s11.2.length true))] = (roundX [0, 3, 4] (st_osmosislaw5_some_L1 l) (fin_osmosislaw5_some_L1 l) r).2.1 ∧ [(some (.cells (F_LB s11.2) false true))] = (roundX [0, 3, 4] (st_osmosislaw5_some_L1 l) (fin_osmosislaw5_some_L1 l) r).2.2)))) := fun C => by kernel_rfl
  refine runS_of (fun _ _ h => by cases h) WB33_0_ok (Nat.le_of_ble_eq_true rfl) ((e _).mpr ?_)
  unfold osmosislaw5_some_L1_s at h
  obtain ⟨q12, h⟩ := bget hx12 h
  refine ⟨fun hb13 => ?_, fun hb13 => ?_⟩
  · have h := cond_t hb13 h
    refine ⟨by have h := s_osmosislaw5_some_J0 (d + 1) q12; rw [isL_t hb13] at h; exact h, ?_⟩
    obtain ⟨q14, h⟩ := bget hx14 h
    refine ⟨wP_idx R_LB q14, ?_⟩
    obtain ⟨q15, h⟩ := bget hx15 h
    refine ⟨s_osmosishand_Few (d + 0) q15, ?_⟩
    refine ⟨by decide, ?_⟩
    obtain ⟨q16, h⟩ := gd_some h
    refine ⟨by simp, ?_⟩
    refine ⟨(Row.app R_LB _ _).symm, ?_⟩
    refine ⟨q16, ?_⟩
    obtain rfl := Option.some.inj h
    exact ⟨rfl, by first | rfl | (simp only [roundX, zipKeep, fin_osmosislaw5_some_L1, st_osmosislaw5_some_L1, List.length_set, List.length_append, List.length_replicate, List.length_cons, List.length_nil, Nat.add_zero, Nat.zero_add]; done) | simp [roundX, zipKeep, fin_osmosislaw5_some_L1, st_osmosislaw5_some_L1], by first | rfl | (simp only [roundX, zipKeep, fin_osmosislaw5_some_L1, st_osmosislaw5_some_L1, List.length_set, List.length_append, List.length_replicate, List.length_cons, List.length_nil, Nat.add_zero, Nat.zero_add]; done) | simp [roundX, zipKeep, fin_osmosislaw5_some_L1, st_osmosislaw5_some_L1]⟩
  · have h := cond_f hb13 h
    refine ⟨by have h := s_osmosislaw5_some_J0 (d + 1) q12; rw [isL_f hb13] at h; exact h, ?_⟩
    obtain rfl := Option.some.inj h
    exact ⟨rfl, by first | rfl | (simp only [roundX, zipKeep, fin_osmosislaw5_some_L1, st_osmosislaw5_some_L1, List.length_set, List.length_append, List.length_replicate, List.length_cons, List.length_nil, Nat.add_zero, Nat.zero_add]; done) | simp [roundX, zipKeep, fin_osmosislaw5_some_L1, st_osmosislaw5_some_L1], by first | rfl | (simp only [roundX, zipKeep, fin_osmosislaw5_some_L1, st_osmosislaw5_some_L1, List.length_set, List.length_append, List.length_replicate, List.length_cons, List.length_nil, Nat.add_zero, Nat.zero_add]; done) | simp [roundX, zipKeep, fin_osmosislaw5_some_L1, st_osmosislaw5_some_L1]⟩
theorem s_osmosislaw5_some_L1 (d : Nat) {l : List (List UInt8)} {s11 : Int × List (List UInt8)} {r : (List (List UInt8))} (h : osmosislaw5_some_L1 l s11 = some r) : RunS (bloop (bexec (wcalls atab (d + 1)) KK 24 WB33_0) [0, 3, 4] KK) 0 [(0, (l_LB l)), (3, (.acc 0 0 1 s11.2.length true)), (4, (.int .i64 s11.1))] [(some (.cells (F_LB s11.2) false true))] (fin_osmosislaw5_some_L1 l r).1 (fin_osmosislaw5_some_L1 l r).2.1 (fin_osmosislaw5_some_L1 l r).2.2 :=
  loop_of (st := st_osmosislaw5_some_L1 l) (fin := fin_osmosislaw5_some_L1 l) (step := osmosislaw5_some_L1_s l) (fun e => by (intro h; cases h)) (fun s x h => b_osmosislaw5_some_L1 d h) KK s11 r h

def osmosislaw5_some (l : List (List UInt8)) : Option (List (List UInt8)) :=
  (osmosislaw5_some_L1 l (0, [])).bind fun (x17 : (List (List UInt8))) => some x17

theorem s_osmosislaw5_some (d : Nat) {l : List (List UInt8)} {r : List (List UInt8)} (h : osmosislaw5_some l = some r) : Spec (wcalls atab (d + 2)) 33 [(l_LB l)] [] (l_LB r) [] := by
  obtain ⟨x17, hx17⟩ : ∃ x : (List (List UInt8)), x = (osmosislaw5_some_L1 l (0, [])).getD default := ⟨_, rfl⟩
  have e : ∀ C : ACalls, wBody C (fun _ => none) KK WF33 [(l_LB l)] [] (.lp [none, (some true), none] [] [] (.exit 0) [(3, (.acc 0 0 1 x17.length true))] [(some (.cells (F_LB x17) false true))] (.fin (some false) [] none)) (l_LB r) [] = (1 = 1 ∧ 1 ≤ 24 ∧ (RunS (bloop (bexec C KK 24 WB33_0) [0, 3, 4] KK) 0 [(0, (l_LB l)), (3, (.acc 0 0 1 0 true)), (4, (.int .i64 0))] [(some (.cells (F_LB []) false true))] (.exit 0) [(3, (.acc 0 0 1 x17.length true))] [(some (.cells (F_LB x17) false true))] ∧ (@Eq AV (l_LB x17) (l_LB r) ∧ @Eq WH [] []))) := fun C => by kernel_rfl
  refine spec_of (fun _ _ h => by cases h) rfl atab_33 WF33_ok ((e _).mpr ⟨rfl, by decide, ?_⟩)
  unfold osmosislaw5_some at h
  obtain ⟨q17, h⟩ := bget hx17 h
  refine ⟨s_osmosislaw5_some_L1 (d + 0) q17, ?_⟩
  obtain rfl := Option.some.inj h
  exact ⟨by wleaf, by wleaf⟩

/- (*osmosis/disk.Disk).Synced -/
def disk_Disk_Synced (p_d : Int) (p_b1 : List UInt8) : Option (Int) :=
  some p_d

theorem s_disk_Disk_Synced (d : Nat) {p_d : Int} {p_b1 : List UInt8} {r : Int} (h : disk_Disk_Synced p_d p_b1 = some r) : Spec (wcalls atab (d + 1)) 40 [(.ptr (some (0, 0)))] [(some (.cells [(.acc 1 0 1 p_b1.length true), (.int .i64 p_d)] false false)), (some (.cells (F_B p_b1) false true))] (.int .i64 r) [(some (.cells [(.acc 1 0 1 p_b1.length true), (.int .i64 p_d)] false false)), (some (.cells (F_B p_b1) false true))] := by
  have e : ∀ C : ACalls, wBody C (fun _ => none) KK WF40 [(.ptr (some (0, 0)))] [(some (.cells [(.acc 1 0 1 p_b1.length true), (.int .i64 p_d)] false false)), (some (.cells (F_B p_b1) false true))] (.fin (some false) [] none) (.int .i64 r) [(some (.cells [(.acc 1 0 1 p_b1.length true), (.int .i64 p_d)] false false)), (some (.cells (F_B p_b1) false true))] = (1 = 1 ∧ 1 ≤ 7 ∧ (@Eq AV (.int .i64 p_d) (.int .i64 r) ∧ @Eq WH [(some (.cells [(.acc 1 0 1 p_b1.length true), (.int .i64 p_d)] false false)), (some (.cells (F_B p_b1) false true))] [(some (.cells [(.acc 1 0 1 p_b1.length true), (.int .i64 p_d)] false false)), (some (.cells (F_B p_b1) false true))])) := fun C => by kernel_rfl
  refine spec_of (fun _ _ h => by cases h) rfl atab_40 WF40_ok ((e _).mpr ⟨rfl, by decide, ?_⟩)
  unfold disk_Disk_Synced at h
  obtain rfl := Option.some.inj h
  exact ⟨by wleaf, by wleaf⟩

/- osmosis/osmosislaw5.same -/
def st_osmosislaw5_same_L0 (a : List (List UInt8)) (p_b : List (List UInt8)) (s3 : Int) : List AV × WH := ([(l_LB a), (l_LB p_b), (.int .i64 (a.length : Int)), (.int .i64 s3)], [])
def fin_osmosislaw5_same_L0 (a : List (List UInt8)) (p_b : List (List UInt8)) : Unit ⊕ Unit → Ex × Fast × WH := fun
  | .inl e => (.ret, [(4, (.bool false))], [])
  | .inr e => ((.exit 0), [], [])
def osmosislaw5_same_L0_s (a : List (List UInt8)) (p_b : List (List UInt8)) (s3 : Int) : Option ((Int) ⊕ (Unit ⊕ Unit)) :=
  cond (decide (s3 < (a.length : Int))) ((getI a s3).bind fun (x4 : List UInt8) => (getI p_b s3).bind fun (x5 : List UInt8) => cond (!(x4 == x5)) (some (.inr (.inl ()))) (some (.inl (IntKind.i64.wrap (s3 + 1))))) (some (.inr (.inr ())))
def osmosislaw5_same_L0 (a : List (List UInt8)) (p_b : List (List UInt8)) (s3 : Int) : Option (Unit ⊕ Unit) := loopX (osmosislaw5_same_L0_s a p_b) KK s3
theorem b_osmosislaw5_same_L0 (d : Nat) {a : List (List UInt8)} {p_b : List (List UInt8)} {s3 : Int} {r : (Int) ⊕ (Unit ⊕ Unit)} (h : osmosislaw5_same_L0_s a p_b s3 = some r) : RunS (bexec (wcalls atab (d + 0)) KK 28 WB37_0) 0 [(0, (l_LB a)), (1, (l_LB p_b)), (12, (.int .i64 (a.length : Int))), (13, (.int .i64 s3))] [] (roundX [0, 1, 12, 13] (st_osmosislaw5_same_L0 a p_b) (fin_osmosislaw5_same_L0 a p_b) r).1 (roundX [0, 1, 12, 13] (st_osmosislaw5_same_L0 a p_b) (fin_osmosislaw5_same_L0 a p_b) r).2.1 (roundX [0, 1, 12, 13] (st_osmosislaw5_same_L0 a p_b) (fin_osmosislaw5_same_L0 a p_b) r).2.2 := by
  obtain ⟨x4, hx4⟩ : ∃ x : List UInt8, x = (getI a s3).getD default := ⟨_, rfl⟩
  obtain ⟨x5, hx5⟩ : ∃ x : List UInt8, x = (getI p_b s3).getD default := ⟨_, rfl⟩
  have e : ∀ C : ACalls, wCode C (fun _ => none) KK 28 0 WB37_0 [(0, (l_LB a)), (1, (l_LB p_b)), (12, (.int .i64 (a.length : Int))), (13, (.int .i64 s3))] [] (.br 14 (.v 18 (.elem ([(l_B x4)] ++ F_LB (a.drop (s3.toNat + 1)))) (.v 20 (.str x4) (.v 23 (.elem ([(l_B x5)] ++ F_LB (p_b.drop (s3.toNat + 1)))) (.v 25 (.str x5) (.br 26 (.en [4] [none] [] []) (.en [0, 1, 12, 13] [none, none, none, none] [] [])))))) (.en [] [] [] [])) (roundX [0, 1, 12, 13] (st_osmosislaw5_same_L0 a p_b) (fin_osmosislaw5_same_L0 a p_b) r) = (((decide (s3 < (a.length : Int))) = true → (wP (.idxSlice 1 (.c (l_LB a)) (.c (.int .i64 s3))) = some (.elem ([(l_B x4)] ++ F_LB (a.drop (s3.toNat + 1)))) ∧ ((toBytes (F_B x4)).map AV.str = some (.str x4) ∧ (wP (.idxSlice 1 (.c (l_LB p_b)) (.c (.int .i64 s3))) = some (.elem ([(l_B x5)] ++ F_LB (p_b.drop (s3.toNat + 1)))) ∧ ((toBytes (F_B x5)).map AV.str = some (.str x5) ∧ (((!(x4 == x5)) = true → (.ret = (roundX [0, 1, 12, 13] (st_osmosislaw5_same_L0 a p_b) (fin_osmosislaw5_same_L0 a p_b) r).1 ∧ [(4, (.bool false))] = (roundX [0, 1, 12, 13] (st_osmosislaw5_same_L0 a p_b) (fin_osmosislaw5_same_L0 a p_b) r).2.1 ∧ [] = (roundX [0, 1, 12, 13] (st_osmosislaw5_same_L0 a p_b) (fin_osmosislaw5_same_L0 a p_b) r).2.2)) ∧ ((!(x4 == x5)) = false → (.normal = (roundX [0, 1, 12, 13] (st_osmosislaw5_same_L0 a p_b) (fin_osmosislaw5_same_L0 a p_b) r).1 ∧ [(0, (l_LB a)), (1, (l_LB p_b)), (12, (.int .i64 (a.length : Int))), (13, (.int .i64 (IntKind.i64.wrap (s3 + 1))))] = (roundX [0, 1, 12, 13] (st_osmosislaw5_same_L0 a p_b) (fin_osmosislaw5_same_L0 a p_b) r).2.1 ∧ [] = (roundX [0, 1, 12, 13] (st_osmosislaw5_same_L0 a p_b) (fin_osmosislaw5_same_L0 a p_b) r).2.2)))))))) ∧ ((decide (s3 < (a.length : Int))) = false → ((.exit 0) = (roundX [0, 1, 12, 13] (st_osmosislaw5_same_L0 a p_b) (fin_osmosislaw5_same_L0 a p_b) r).1 ∧ [] = (roundX [0, 1, 12, 13] (st_osmosislaw5_same_L0 a p_b) (fin_osmosislaw5_same_L0 a p_b) r).2.1 ∧ [] = (roundX [0, 1, 12, 13] (st_osmosislaw5_same_L0 a p_b) (fin_osmosislaw5_same_L0 a p_b) r).2.2))) := fun C => by kernel_rfl
  refine runS_of (fun _ _ h => by cases h) WB37_0_ok (Nat.le_of_ble_eq_true rfl) ((e _).mpr ?_)
  unfold osmosislaw5_same_L0_s at h
  refine ⟨fun hb => ?_, fun hb => ?_⟩
  · have h := cond_t hb h
    obtain ⟨q4, h⟩ := bget hx4 h
    refine ⟨wP_idx R_LB q4, ?_⟩
    refine ⟨by rw [show F_B x4 = (x4).map byteC from rfl, toBytes_map]; rfl, ?_⟩
    obtain ⟨q5, h⟩ := bget hx5 h
    refine ⟨wP_idx R_LB q5, ?_⟩
    refine ⟨by rw [show F_B x5 = (x5).map byteC from rfl, toBytes_map]; rfl, ?_⟩
    refine ⟨fun hb => ?_, fun hb => ?_⟩
    · have h := cond_t hb h
      obtain rfl := Option.some.inj h
      exact ⟨rfl, by first | rfl | (simp only [roundX, zipKeep, fin_osmosislaw5_same_L0, st_osmosislaw5_same_L0, List.length_set, List.length_append, List.length_replicate, List.length_cons, List.length_nil, Nat.add_zero, Nat.zero_add]; done) | simp [roundX, zipKeep, fin_osmosislaw5_same_L0, st_osmosislaw5_same_L0], by first | rfl | (simp only [roundX, zipKeep, fin_osmosislaw5_same_L0, st_osmosislaw5_same_L0, List.length_set, List.length_append, List.length_replicate, List.length_cons, List.length_nil, Nat.add_zero, Nat.zero_add]; done) | simp [roundX, zipKeep, fin_osmosislaw5_same_L0, st_osmosislaw5_same_L0]⟩
    · have h := cond_f hb h
      obtain rfl := Option.some.inj h
      exact ⟨rfl, by first | rfl | (simp only [roundX, zipKeep, fin_osmosislaw5_same_L0, st_osmosislaw5_same_L0, List.length_set, List.length_append, List.length_replicate, List.length_cons, List.length_nil, Nat.add_zero, Nat.zero_add]; done) | simp [roundX, zipKeep, fin_osmosislaw5_same_L0, st_osmosislaw5_same_L0], by first | rfl | (simp only [roundX, zipKeep, fin_osmosislaw5_same_L0, st_osmosislaw5_same_L0, List.length_set, List.length_append, List.length_replicate, List.length_cons, List.length_nil, Nat.add_zero, Nat.zero_add]; done) | simp [roundX, zipKeep, fin_osmosislaw5_same_L0, st_osmosislaw5_same_L0]⟩
  · have h := cond_f hb h
    obtain rfl := Option.some.inj h
    exact ⟨rfl, by first | rfl | (simp only [roundX, zipKeep, fin_osmosislaw5_same_L0, st_osmosislaw5_same_L0, List.length_set, List.length_append, List.length_replicate, List.length_cons, List.length_nil, Nat.add_zero, Nat.zero_add]; done) | simp [roundX, zipKeep, fin_osmosislaw5_same_L0, st_osmosislaw5_same_L0], by first | rfl | (simp only [roundX, zipKeep, fin_osmosislaw5_same_L0, st_osmosislaw5_same_L0, List.length_set, List.length_append, List.length_replicate, List.length_cons, List.length_nil, Nat.add_zero, Nat.zero_add]; done) | simp [roundX, zipKeep, fin_osmosislaw5_same_L0, st_osmosislaw5_same_L0]⟩
theorem s_osmosislaw5_same_L0 (d : Nat) {a : List (List UInt8)} {p_b : List (List UInt8)} {s3 : Int} {r : Unit ⊕ Unit} (h : osmosislaw5_same_L0 a p_b s3 = some r) : RunS (bloop (bexec (wcalls atab (d + 0)) KK 28 WB37_0) [0, 1, 12, 13] KK) 0 [(0, (l_LB a)), (1, (l_LB p_b)), (12, (.int .i64 (a.length : Int))), (13, (.int .i64 s3))] [] (fin_osmosislaw5_same_L0 a p_b r).1 (fin_osmosislaw5_same_L0 a p_b r).2.1 (fin_osmosislaw5_same_L0 a p_b r).2.2 :=
  loop_of (st := st_osmosislaw5_same_L0 a p_b) (fin := fin_osmosislaw5_same_L0 a p_b) (step := osmosislaw5_same_L0_s a p_b) (fun e => by rcases e with e | e <;> (intro h; cases h)) (fun s x h => b_osmosislaw5_same_L0 d h) KK s3 r h

def osmosislaw5_same (a : List (List UInt8)) (p_b : List (List UInt8)) : Option (Bool) :=
  cond ((a.length : Int) != (p_b.length : Int)) (some false) ((osmosislaw5_same_L0 a p_b 0).bind fun (x6 : Unit ⊕ Unit) => cond (isL x6) (some false) (some true))

theorem s_osmosislaw5_same (d : Nat) {a : List (List UInt8)} {p_b : List (List UInt8)} {r : Bool} (h : osmosislaw5_same a p_b = some r) : Spec (wcalls atab (d + 1)) 37 [(l_LB a), (l_LB p_b)] [] (.bool r) [] := by
  obtain ⟨x6, hx6⟩ : ∃ x : Unit ⊕ Unit, x = (osmosislaw5_same_L0 a p_b 0).getD default := ⟨_, rfl⟩
  have e : ∀ C : ACalls, wBody C (fun _ => none) KK WF37 [(l_LB a), (l_LB p_b)] [] (.br 10 (.fin (some false) [] none) (.ite (isL x6) (.lp [none, none, none, none] [] [] .ret [(4, (.bool false))] [] (.fin (some false) [] none)) (.lp [none, none, none, none] [] [] (.exit 0) [] [] (.fin (some false) [] none)))) (.bool r) [] = (2 = 2 ∧ 2 ≤ 28 ∧ ((((a.length : Int) != (p_b.length : Int)) = true → (@Eq AV (.bool false) (.bool r) ∧ @Eq WH [] [])) ∧ (((a.length : Int) != (p_b.length : Int)) = false → (((isL x6) = true → (RunS (bloop (bexec C KK 28 WB37_0) [0, 1, 12, 13] KK) 0 [(0, (l_LB a)), (1, (l_LB p_b)), (12, (.int .i64 (a.length : Int))), (13, (.int .i64 0))] [] .ret [(4, (.bool false))] [] ∧ (@Eq AV (.bool false) (.bool r) ∧ @Eq WH [] []))) ∧ ((isL x6) = false → (RunS (bloop (bexec C KK 28 WB37_0) [0, 1, 12, 13] KK) 0 [(0, (l_LB a)), (1, (l_LB p_b)), (12, (.int .i64 (a.length : Int))), (13, (.int .i64 0))] [] (.exit 0) [] [] ∧ (@Eq AV (.bool true) (.bool r) ∧ @Eq WH [] []))))))) := fun C => by kernel_rfl
  refine spec_of (fun _ _ h => by cases h) rfl atab_37 WF37_ok ((e _).mpr ⟨rfl, by decide, ?_⟩)
  unfold osmosislaw5_same at h
  refine ⟨fun hb => ?_, fun hb => ?_⟩
  · have h := cond_t hb h
    obtain rfl := Option.some.inj h
    exact ⟨by wleaf, by wleaf⟩
  · have h := cond_f hb h
    obtain ⟨q6, h⟩ := bget hx6 h
    refine ⟨fun hb7 => ?_, fun hb7 => ?_⟩
    · have h := cond_t hb7 h
      refine ⟨by have h := s_osmosislaw5_same_L0 (d + 0) q6; rw [isL_t hb7] at h; exact h, ?_⟩
      obtain rfl := Option.some.inj h
      exact ⟨by wleaf, by wleaf⟩
    · have h := cond_f hb7 h
      refine ⟨by have h := s_osmosislaw5_same_L0 (d + 0) q6; rw [isL_f hb7] at h; exact h, ?_⟩
      obtain rfl := Option.some.inj h
      exact ⟨by wleaf, by wleaf⟩

/- osmosis/osmosislaw5.WalCrash -/
def fin_osmosislaw5_WalCrash_J0 (synced : List (List UInt8)) (tail : List (List UInt8)) (keep : Int) (x2 : Int × List UInt8) : Unit ⊕ Unit → Ex × Fast × WH := fun
  | .inl e => (.ret, [(6, (.bool false))], [])
  | .inr e => (.normal, [(0, (l_LB synced)), (1, (l_LB tail)), (2, (.int .i64 keep)), (7, (.ptr (some (0, 0)))), (8, (.ptr (some (1, 0))))], [(some (.cells [(.acc 2 0 1 x2.2.length true), (.int .i64 x2.1)] false false)), (some (.cells [(.ptr (some (0, 0)))] false false)), (some (.cells (F_B x2.2) false true))])
def osmosislaw5_WalCrash_J0 (synced : List (List UInt8)) (tail : List (List UInt8)) (keep : Int) (x2 : Int × List UInt8) : Option (Unit ⊕ Unit) :=
  (osmosislaw5_known).bind fun (x3 : Bool) => cond (!x3) (some (.inl ())) (some (.inr ()))
theorem s_osmosislaw5_WalCrash_J0 (d : Nat) {synced : List (List UInt8)} {tail : List (List UInt8)} {keep : Int} {x2 : Int × List UInt8} {r : Unit ⊕ Unit} (h : osmosislaw5_WalCrash_J0 synced tail keep x2 = some r) : RunS (bexec (wcalls atab (d + 8)) KK 126 WJ9_bbba) 0 [(0, (l_LB synced)), (1, (l_LB tail)), (2, (.int .i64 keep)), (7, (.ptr (some (0, 0)))), (8, (.ptr (some (1, 0))))] [(some (.cells [(.acc 2 0 1 x2.2.length true), (.int .i64 x2.1)] false false)), (some (.cells [(.ptr (some (0, 0)))] false false)), (some (.cells (F_B x2.2) false true))] (fin_osmosislaw5_WalCrash_J0 synced tail keep x2 r).1 (fin_osmosislaw5_WalCrash_J0 synced tail keep x2 r).2.1 (fin_osmosislaw5_WalCrash_J0 synced tail keep x2 r).2.2 := by
  obtain ⟨x3, hx3⟩ : ∃ x : Bool, x = (osmosislaw5_known).getD default := ⟨_, rfl⟩
  have e : ∀ C : ACalls, wCode C (fun _ => none) KK 126 0 WJ9_bbba [(0, (l_LB synced)), (1, (l_LB tail)), (2, (.int .i64 keep)), (7, (.ptr (some (0, 0)))), (8, (.ptr (some (1, 0))))] [(some (.cells [(.acc 2 0 1 x2.2.length true), (.int .i64 x2.1)] false false)), (some (.cells [(.ptr (some (0, 0)))] false false)), (some (.cells (F_B x2.2) false true))] (.cb [] [] (.bool x3) (.br 21 (.en [6] [none] [] []) (.en [0, 1, 2, 7, 8] [none, none, none, none, none] [] []))) (fin_osmosislaw5_WalCrash_J0 synced tail keep x2 r) = (Spec C 32 [] [] (.bool x3) [] ∧ (((!x3) = true → (.ret = (fin_osmosislaw5_WalCrash_J0 synced tail keep x2 r).1 ∧ [(6, (.bool false))] = (fin_osmosislaw5_WalCrash_J0 synced tail keep x2 r).2.1 ∧ [] = (fin_osmosislaw5_WalCrash_J0 synced tail keep x2 r).2.2)) ∧ ((!x3) = false → (.normal = (fin_osmosislaw5_WalCrash_J0 synced tail keep x2 r).1 ∧ [(0, (l_LB synced)), (1, (l_LB tail)), (2, (.int .i64 keep)), (7, (.ptr (some (0, 0)))), (8, (.ptr (some (1, 0))))] = (fin_osmosislaw5_WalCrash_J0 synced tail keep x2 r).2.1 ∧ [(some (.cells [(.acc 2 0 1 x2.2.length true), (.int .i64 x2.1)] false false)), (some (.cells [(.ptr (some (0, 0)))] false false)), (some (.cells (F_B x2.2) false true))] = (fin_osmosislaw5_WalCrash_J0 synced tail keep x2 r).2.2)))) := fun C => by kernel_rfl
  refine runS_of (fun _ _ h => by cases h) WJ9_bbba_ok (Nat.le_of_ble_eq_true rfl) ((e _).mpr ?_)
  unfold osmosislaw5_WalCrash_J0 at h
  obtain ⟨q3, h⟩ := bget hx3 h
  refine ⟨s_osmosislaw5_known (d + 0) q3, ?_⟩
  refine ⟨fun hb => ?_, fun hb => ?_⟩
  · have h := cond_t hb h
    obtain rfl := Option.some.inj h
    exact ⟨rfl, by first | rfl | (simp only [roundX, zipKeep, fin_osmosislaw5_WalCrash_J0, List.length_set, List.length_append, List.length_replicate, List.length_cons, List.length_nil, Nat.add_zero, Nat.zero_add]; done) | simp [roundX, zipKeep, fin_osmosislaw5_WalCrash_J0], by first | rfl | (simp only [roundX, zipKeep, fin_osmosislaw5_WalCrash_J0, List.length_set, List.length_append, List.length_replicate, List.length_cons, List.length_nil, Nat.add_zero, Nat.zero_add]; done) | simp [roundX, zipKeep, fin_osmosislaw5_WalCrash_J0]⟩
  · have h := cond_f hb h
    obtain rfl := Option.some.inj h
    exact ⟨rfl, by first | rfl | (simp only [roundX, zipKeep, fin_osmosislaw5_WalCrash_J0, List.length_set, List.length_append, List.length_replicate, List.length_cons, List.length_nil, Nat.add_zero, Nat.zero_add]; done) | simp [roundX, zipKeep, fin_osmosislaw5_WalCrash_J0], by first | rfl | (simp only [roundX, zipKeep, fin_osmosislaw5_WalCrash_J0, List.length_set, List.length_append, List.length_replicate, List.length_cons, List.length_nil, Nat.add_zero, Nat.zero_add]; done) | simp [roundX, zipKeep, fin_osmosislaw5_WalCrash_J0]⟩

def st_osmosislaw5_WalCrash_L1 (x7 : List (List UInt8)) (x9 : Int × Int) (keep : Int) (x6 : List (List UInt8)) (s20 : Int × List Int × List UInt8) : List AV × WH := ([(.int .i64 keep), (.ptr (some (0, 0))), (.ptr (some (1, 0))), (l_LB x6), (l_LB x7), (.acc 2 0 1 s20.2.1.length true), (l_LB x7), (.int .i64 (x7.length : Int)), (.int .i64 s20.1)], [(some (.cells [(.acc 3 0 1 s20.2.2.length true), (.int .i64 x9.2)] false false)), (some (.cells [(.ptr (some (0, 0)))] false false)), (some (.cells (F_I s20.2.1) false true)), (some (.cells (F_B s20.2.2) false true))])
def fin_osmosislaw5_WalCrash_L1 (x7 : List (List UInt8)) (x9 : Int × Int) (keep : Int) (x6 : List (List UInt8)) : Unit ⊕ (List Int × List UInt8) → Ex × Fast × WH := fun
  | .inl e => (.ret, [(6, (.bool false))], [])
  | .inr e => ((.exit 0), [(2, (.int .i64 keep)), (7, (.ptr (some (0, 0)))), (8, (.ptr (some (1, 0)))), (9, (l_LB x6)), (10, (l_LB x7)), (11, (.acc 2 0 1 e.1.length true))], [(some (.cells [(.acc 3 0 1 e.2.length true), (.int .i64 x9.2)] false false)), (some (.cells [(.ptr (some (0, 0)))] false false)), (some (.cells (F_I e.1) false true)), (some (.cells (F_B e.2) false true))])
def osmosislaw5_WalCrash_L1_s (x7 : List (List UInt8)) (x9 : Int × Int) (keep : Int) (x6 : List (List UInt8)) (s20 : Int × List Int × List UInt8) : Option ((Int × List Int × List UInt8) ⊕ (Unit ⊕ (List Int × List UInt8))) :=
  cond (decide (s20.1 < (x7.length : Int))) ((getI x7 s20.1).bind fun (x21 : List UInt8) => (wal_Log_Add [x21] x9.2 s20.2.2).bind fun (x22 : Bool × List UInt8) => cond (!x22.1) (some (.inr (.inl ()))) ((disk_Disk_Size x9.2 x22.2).bind fun (x23 : Int) => (disk_Disk_Synced x9.2 x22.2).bind fun (x24 : Int) => gd (fitsB 8 (s20.2.1 ++ [(IntKind.i64.wrap (x23 - x24))]).length) (some (.inl ((IntKind.i64.wrap (s20.1 + 1)), (s20.2.1 ++ [(IntKind.i64.wrap (x23 - x24))]), x22.2))))) (some (.inr (.inr (s20.2.1, s20.2.2))))
def osmosislaw5_WalCrash_L1 (x7 : List (List UInt8)) (x9 : Int × Int) (keep : Int) (x6 : List (List UInt8)) (s20 : Int × List Int × List UInt8) : Option (Unit ⊕ (List Int × List UInt8)) := loopX (osmosislaw5_WalCrash_L1_s x7 x9 keep x6) KK s20
theorem b_osmosislaw5_WalCrash_L1 (d : Nat) {x7 : List (List UInt8)} {x9 : Int × Int} {keep : Int} {x6 : List (List UInt8)} {s20 : Int × List Int × List UInt8} {r : (Int × List Int × List UInt8) ⊕ (Unit ⊕ (List Int × List UInt8))} (h : osmosislaw5_WalCrash_L1_s x7 x9 keep x6 s20 = some r) : RunS (bexec (wcalls atab (d + 5)) KK 126 WB9_0) 0 [(2, (.int .i64 keep)), (7, (.ptr (some (0, 0)))), (8, (.ptr (some (1, 0)))), (9, (l_LB x6)), (10, (l_LB x7)), (11, (.acc 2 0 1 s20.2.1.length true)), (42, (l_LB x7)), (43, (.int .i64 (x7.length : Int))), (44, (.int .i64 s20.1))] [(some (.cells [(.acc 3 0 1 s20.2.2.length true), (.int .i64 x9.2)] false false)), (some (.cells [(.ptr (some (0, 0)))] false false)), (some (.cells (F_I s20.2.1) false true)), (some (.cells (F_B s20.2.2) false true))] (roundX [2, 7, 8, 9, 10, 11, 42, 43, 44] (st_osmosislaw5_WalCrash_L1 x7 x9 keep x6) (fin_osmosislaw5_WalCrash_L1 x7 x9 keep x6) r).1 (roundX [2, 7, 8, 9, 10, 11, 42, 43, 44] (st_osmosislaw5_WalCrash_L1 x7 x9 keep x6) (fin_osmosislaw5_WalCrash_L1 x7 x9 keep x6) r).2.1 (roundX [2, 7, 8, 9, 10, 11, 42, 43, 44] (st_osmosislaw5_WalCrash_L1 x7 x9 keep x6) (fin_osmosislaw5_WalCrash_L1 x7 x9 keep x6) r).2.2 := by
  obtain ⟨x21, hx21⟩ : ∃ x : List UInt8, x = (getI x7 s20.1).getD default := ⟨_, rfl⟩
  obtain ⟨x22, hx22⟩ : ∃ x : Bool × List UInt8, x = (wal_Log_Add [x21] x9.2 s20.2.2).getD default := ⟨_, rfl⟩
  obtain ⟨x23, hx23⟩ : ∃ x : Int, x = (disk_Disk_Size x9.2 x22.2).getD default := ⟨_, rfl⟩
  obtain ⟨x24, hx24⟩ : ∃ x : Int, x = (disk_Disk_Synced x9.2 x22.2).getD default := ⟨_, rfl⟩
  have e : ∀ C : ACalls, wCode C (fun _ => none) KK 126 0 WB9_0 [(2, (.int .i64 keep)), (7, (.ptr (some (0, 0)))), (8, (.ptr (some (1, 0)))), (9, (l_LB x6)), (10, (l_LB x7)), (11, (.acc 2 0 1 s20.2.1.length true)), (42, (l_LB x7)), (43, (.int .i64 (x7.length : Int))), (44, (.int .i64 s20.1))] [(some (.cells [(.acc 3 0 1 s20.2.2.length true), (.int .i64 x9.2)] false false)), (some (.cells [(.ptr (some (0, 0)))] false false)), (some (.cells (F_I s20.2.1) false true)), (some (.cells (F_B s20.2.2) false true))] (.br 45 (.v 46 (.elem ([(l_B x21)] ++ F_LB (x7.drop (s20.1.toNat + 1)))) (.call [] none [] (.bool x22.1) [(some (.cells [(.ptr (some (1, 0)))] false false)), (some (.cells [(.acc 3 0 1 x22.2.length true), (.int .i64 x9.2)] false false)), none, (some (.cells (F_B x22.2) false true))] (.br 52 (.en [6] [none] [] []) (.call [] none [] (.int .i64 x23) [(some (.cells [(.acc 1 0 1 x22.2.length true), (.int .i64 x9.2)] false false)), (some (.cells (F_B x22.2) false true))] (.call [] none [] (.int .i64 x24) [(some (.cells [(.acc 1 0 1 x22.2.length true), (.int .i64 x9.2)] false false)), (some (.cells (F_B x22.2) false true))] (.ap 66 (s20.2.1 ++ [(IntKind.i64.wrap (x23 - x24))]).length (F_I (s20.2.1 ++ [(IntKind.i64.wrap (x23 - x24))])) (.en [2, 7, 8, 9, 10, 11, 42, 43, 44] [none, none, none, none, none, none, none, none, none] [] []))))))) (.en [2, 7, 8, 9, 10, 11] [none, none, none, none, none, none] [] [])) (roundX [2, 7, 8, 9, 10, 11, 42, 43, 44] (st_osmosislaw5_WalCrash_L1 x7 x9 keep x6) (fin_osmosislaw5_WalCrash_L1 x7 x9 keep x6) r) = (((decide (s20.1 < (x7.length : Int))) = true → (wP (.idxSlice 1 (.c (l_LB x7)) (.c (.int .i64 s20.1))) = some (.elem ([(l_B x21)] ++ F_LB (x7.drop (s20.1.toNat + 1)))) ∧ (Spec C 35 [(.ptr (some (0, 0))), (l_LB [x21])] [(some (.cells [(.ptr (some (1, 0)))] false false)), (some (.cells [(.acc 2 0 1 s20.2.2.length true), (.int .i64 x9.2)] false false)), (some (.cells (F_B s20.2.2) false true))] (.bool x22.1) [(some (.cells [(.ptr (some (1, 0)))] false false)), (some (.cells [(.acc 3 0 1 x22.2.length true), (.int .i64 x9.2)] false false)), none, (some (.cells (F_B x22.2) false true))] ∧ (3 ≤ 4 ∧ (((!x22.1) = true → (.ret = (roundX [2, 7, 8, 9, 10, 11, 42, 43, 44] (st_osmosislaw5_WalCrash_L1 x7 x9 keep x6) (fin_osmosislaw5_WalCrash_L1 x7 x9 keep x6) r).1 ∧ [(6, (.bool false))] = (roundX [2, 7, 8, 9, 10, 11, 42, 43, 44] (st_osmosislaw5_WalCrash_L1 x7 x9 keep x6) (fin_osmosislaw5_WalCrash_L1 x7 x9 keep x6) r).2.1 ∧ [] = (roundX [2, 7, 8, 9, 10, 11, 42, 43, 44] (st_osmosislaw5_WalCrash_L1 x7 x9 keep x6) (fin_osmosislaw5_WalCrash_L1 x7 x9 keep x6) r).2.2)) ∧ ((!x22.1) = false → (Spec C 39 [(.ptr (some (0, 0)))] [(some (.cells [(.acc 1 0 1 x22.2.length true), (.int .i64 x9.2)] false false)), (some (.cells (F_B x22.2) false true))] (.int .i64 x23) [(some (.cells [(.acc 1 0 1 x22.2.length true), (.int .i64 x9.2)] false false)), (some (.cells (F_B x22.2) false true))] ∧ (2 ≤ 2 ∧ (Spec C 40 [(.ptr (some (0, 0)))] [(some (.cells [(.acc 1 0 1 x22.2.length true), (.int .i64 x9.2)] false false)), (some (.cells (F_B x22.2) false true))] (.int .i64 x24) [(some (.cells [(.acc 1 0 1 x22.2.length true), (.int .i64 x9.2)] false false)), (some (.cells (F_B x22.2) false true))] ∧ (2 ≤ 2 ∧ (s20.2.1.length + 1 = (s20.2.1 ++ [(IntKind.i64.wrap (x23 - x24))]).length ∧ (F_I s20.2.1 ++ F_I ([(IntKind.i64.wrap (x23 - x24))]) = F_I (s20.2.1 ++ [(IntKind.i64.wrap (x23 - x24))]) ∧ (fitsB 8 (s20.2.1 ++ [(IntKind.i64.wrap (x23 - x24))]).length = true ∧ (.normal = (roundX [2, 7, 8, 9, 10, 11, 42, 43, 44] (st_osmosislaw5_WalCrash_L1 x7 x9 keep x6) (fin_osmosislaw5_WalCrash_L1 x7 x9 keep x6) r).1 ∧ [(2, (.int .i64 keep)), (7, (.ptr (some (0, 0)))), (8, (.ptr (some (1, 0)))), (9, (l_LB x6)), (10, (l_LB x7)), (11, (.acc 2 0 1 ((s20.2.1 ++ [(IntKind.i64.wrap (x23 - x24))]).length) true)), (42, (l_LB x7)), (43, (.int .i64 (x7.length : Int))), (44, (.int .i64 (IntKind.i64.wrap (s20.1 + 1))))] = (roundX [2, 7, 8, 9, 10, 11, 42, 43, 44] (st_osmosislaw5_WalCrash_L1 x7 x9 keep x6) (fin_osmosislaw5_WalCrash_L1 x7 x9 keep x6) r).2.1 ∧ [(some (.cells [(.acc 3 0 1 x22.2.length true), (.int .i64 x9.2)] false false)), (some (.cells [(.ptr (some (0, 0)))] false false)), (some (.cells (F_I (s20.2.1 ++ [(IntKind.i64.wrap (x23 - x24))])) false true)), (some (.cells (F_B x22.2) false true))] = (roundX [2, 7, 8, 9, 10, 11, 42, 43, 44] (st_osmosislaw5_WalCrash_L1 x7 x9 keep x6) (fin_osmosislaw5_WalCrash_L1 x7 x9 keep x6) r).2.2)))))))))))))) ∧ ((decide (s20.1 < (x7.length : Int))) = false → ((.exit 0) = (roundX [2, 7, 8, 9, 10, 11, 42, 43, 44] (st_osmosislaw5_WalCrash_L1 x7 x9 keep x6) (fin_osmosislaw5_WalCrash_L1 x7 x9 keep x6) r).1 ∧ [(2, (.int .i64 keep)), (7, (.ptr (some (0, 0)))), (8, (.ptr (some (1, 0)))), (9, (l_LB x6)), (10, (l_LB x7)), (11, (.acc 2 0 1 s20.2.1.length true))] = (roundX [2, 7, 8, 9, 10, 11, 42, 43, 44] (st_osmosislaw5_WalCrash_L1 x7 x9 keep x6) (fin_osmosislaw5_WalCrash_L1 x7 x9 keep x6) r).2.1 ∧ [(some (.cells [(.acc 3 0 1 s20.2.2.length true), (.int .i64 x9.2)] false false)), (some (.cells [(.ptr (some (0, 0)))] false false)), (some (.cells (F_I s20.2.1) false true)), (some (.cells (F_B s20.2.2) false true))] = (roundX [2, 7, 8, 9, 10, 11, 42, 43, 44] (st_osmosislaw5_WalCrash_L1 x7 x9 keep x6) (fin_osmosislaw5_WalCrash_L1 x7 x9 keep x6) r).2.2))) := fun C => by kernel_rfl
  refine runS_of (fun _ _ h => by cases h) WB9_0_ok (Nat.le_of_ble_eq_true rfl) ((e _).mpr ?_)
  unfold osmosislaw5_WalCrash_L1_s at h
  refine ⟨fun hb => ?_, fun hb => ?_⟩
  · have h := cond_t hb h
    obtain ⟨q21, h⟩ := bget hx21 h
    refine ⟨wP_idx R_LB q21, ?_⟩
    obtain ⟨q22, h⟩ := bget hx22 h
    refine ⟨s_wal_Log_Add (d + 0) q22, ?_⟩
    refine ⟨by decide, ?_⟩
    refine ⟨fun hb => ?_, fun hb => ?_⟩
    · have h := cond_t hb h
      obtain rfl := Option.some.inj h
      exact ⟨rfl, by first | rfl | (simp only [roundX, zipKeep, fin_osmosislaw5_WalCrash_L1, st_osmosislaw5_WalCrash_L1, List.length_set, List.length_append, List.length_replicate, List.length_cons, List.length_nil, Nat.add_zero, Nat.zero_add]; done) | simp [roundX, zipKeep, fin_osmosislaw5_WalCrash_L1, st_osmosislaw5_WalCrash_L1], by first | rfl | (simp only [roundX, zipKeep, fin_osmosislaw5_WalCrash_L1, st_osmosislaw5_WalCrash_L1, List.length_set, List.length_append, List.length_replicate, List.length_cons, List.length_nil, Nat.add_zero, Nat.zero_add]; done) | simp [roundX, zipKeep, fin_osmosislaw5_WalCrash_L1, st_osmosislaw5_WalCrash_L1]⟩
    · have h := cond_f hb h
      obtain ⟨q23, h⟩ := bget hx23 h
      refine ⟨s_disk_Disk_Size (d + 4) q23, ?_⟩
      refine ⟨by decide, ?_⟩
      obtain ⟨q24, h⟩ := bget hx24 h
      refine ⟨s_disk_Disk_Synced (d + 4) q24, ?_⟩
      refine ⟨by decide, ?_⟩
      obtain ⟨q25, h⟩ := gd_some h
      refine ⟨by simp, ?_⟩
      refine ⟨(Row.app R_I _ _).symm, ?_⟩
      refine ⟨q25, ?_⟩
      obtain rfl := Option.some.inj h
      exact ⟨rfl, by first | rfl | (simp only [roundX, zipKeep, fin_osmosislaw5_WalCrash_L1, st_osmosislaw5_WalCrash_L1, List.length_set, List.length_append, List.length_replicate, List.length_cons, List.length_nil, Nat.add_zero, Nat.zero_add]; done) | simp [roundX, zipKeep, fin_osmosislaw5_WalCrash_L1, st_osmosislaw5_WalCrash_L1], by first | rfl | (simp only [roundX, zipKeep, fin_osmosislaw5_WalCrash_L1, st_osmosislaw5_WalCrash_L1, List.length_set, List.length_append, List.length_replicate, List.length_cons, List.length_nil, Nat.add_zero, Nat.zero_add]; done) | simp [roundX, zipKeep, fin_osmosislaw5_WalCrash_L1, st_osmosislaw5_WalCrash_L1]⟩
  · have h := cond_f hb h
    obtain rfl := Option.some.inj h
    exact ⟨rfl, by first | rfl | (simp only [roundX, zipKeep, fin_osmosislaw5_WalCrash_L1, st_osmosislaw5_WalCrash_L1, List.length_set, List.length_append, List.length_replicate, List.length_cons, List.length_nil, Nat.add_zero, Nat.zero_add]; done) | simp [roundX, zipKeep, fin_osmosislaw5_WalCrash_L1, st_osmosislaw5_WalCrash_L1], by first | rfl | (simp only [roundX, zipKeep, fin_osmosislaw5_WalCrash_L1, st_osmosislaw5_WalCrash_L1, List.length_set, List.length_append, List.length_replicate, List.length_cons, List.length_nil, Nat.add_zero, Nat.zero_add]; done) | simp [roundX, zipKeep, fin_osmosislaw5_WalCrash_L1, st_osmosislaw5_WalCrash_L1]⟩
theorem s_osmosislaw5_WalCrash_L1 (d : Nat) {x7 : List (List UInt8)} {x9 : Int × Int} {keep : Int} {x6 : List (List UInt8)} {s20 : Int × List Int × List UInt8} {r : Unit ⊕ (List Int × List UInt8)} (h : osmosislaw5_WalCrash_L1 x7 x9 keep x6 s20 = some r) : RunS (bloop (bexec (wcalls atab (d + 5)) KK 126 WB9_0) [2, 7, 8, 9, 10, 11, 42, 43, 44] KK) 0 [(2, (.int .i64 keep)), (7, (.ptr (some (0, 0)))), (8, (.ptr (some (1, 0)))), (9, (l_LB x6)), (10, (l_LB x7)), (11, (.acc 2 0 1 s20.2.1.length true)), (42, (l_LB x7)), (43, (.int .i64 (x7.length : Int))), (44, (.int .i64 s20.1))] [(some (.cells [(.acc 3 0 1 s20.2.2.length true), (.int .i64 x9.2)] false false)), (some (.cells [(.ptr (some (0, 0)))] false false)), (some (.cells (F_I s20.2.1) false true)), (some (.cells (F_B s20.2.2) false true))] (fin_osmosislaw5_WalCrash_L1 x7 x9 keep x6 r).1 (fin_osmosislaw5_WalCrash_L1 x7 x9 keep x6 r).2.1 (fin_osmosislaw5_WalCrash_L1 x7 x9 keep x6 r).2.2 :=
  loop_of (st := st_osmosislaw5_WalCrash_L1 x7 x9 keep x6) (fin := fin_osmosislaw5_WalCrash_L1 x7 x9 keep x6) (step := osmosislaw5_WalCrash_L1_s x7 x9 keep x6) (fun e => by rcases e with e | e <;> (intro h; cases h)) (fun s x h => b_osmosislaw5_WalCrash_L1 d h) KK s20 r h

def st_osmosislaw5_WalCrash_L2 (x26 : Unit ⊕ (List Int × List UInt8)) (x30 : Int) (x6 : List (List UInt8)) (x7 : List (List UInt8)) (x31 : Int × Int × List UInt8) (s33 : Int) : List AV × WH := ([(.int .i64 x30), (.ptr (some (0, 0))), (l_LB x6), (l_LB x7), (.acc 1 0 1 (((getR x26).1).length) true), (.int .i64 s33)], [(some (.cells [(.acc 2 0 1 x31.2.2.length true), (.int .i64 x31.2.1)] false false)), (some (.cells (F_I ((getR x26).1)) false true)), (some (.cells (F_B x31.2.2) false true))])
def fin_osmosislaw5_WalCrash_L2 (x26 : Unit ⊕ (List Int × List UInt8)) (x30 : Int) (x6 : List (List UInt8)) (x7 : List (List UInt8)) (x31 : Int × Int × List UInt8) : Int → Ex × Fast × WH := fun e => ((.exit 2), [(7, (.ptr (some (0, 0)))), (9, (l_LB x6)), (10, (l_LB x7)), (14, (.int .i64 e))], [(some (.cells [(.acc 1 0 1 x31.2.2.length true), (.int .i64 x31.2.1)] false false)), (some (.cells (F_B x31.2.2) false true))])
def osmosislaw5_WalCrash_L2_s (x26 : Unit ⊕ (List Int × List UInt8)) (x30 : Int) (x6 : List (List UInt8)) (x7 : List (List UInt8)) (x31 : Int × Int × List UInt8) (s33 : Int) : Option ((Int) ⊕ (Int)) :=
  cond (decide (s33 < (((getR x26).1).length : Int))) ((getI ((getR x26).1) s33).bind fun (x34 : Int) => cond (decide (x34 ≤ x30)) (some (.inl (IntKind.i64.wrap (s33 + 1)))) (some (.inr s33))) (some (.inr s33))
def osmosislaw5_WalCrash_L2 (x26 : Unit ⊕ (List Int × List UInt8)) (x30 : Int) (x6 : List (List UInt8)) (x7 : List (List UInt8)) (x31 : Int × Int × List UInt8) (s33 : Int) : Option (Int) := loopX (osmosislaw5_WalCrash_L2_s x26 x30 x6 x7 x31) KK s33
theorem b_osmosislaw5_WalCrash_L2 (d : Nat) {x26 : Unit ⊕ (List Int × List UInt8)} {x30 : Int} {x6 : List (List UInt8)} {x7 : List (List UInt8)} {x31 : Int × Int × List UInt8} {s33 : Int} {r : (Int) ⊕ (Int)} (h : osmosislaw5_WalCrash_L2_s x26 x30 x6 x7 x31 s33 = some r) : RunS (bexec (wcalls atab (d + 0)) KK 126 WB9_1) 0 [(2, (.int .i64 x30)), (7, (.ptr (some (0, 0)))), (9, (l_LB x6)), (10, (l_LB x7)), (11, (.acc 1 0 1 (((getR x26).1).length) true)), (14, (.int .i64 s33))] [(some (.cells [(.acc 2 0 1 x31.2.2.length true), (.int .i64 x31.2.1)] false false)), (some (.cells (F_I ((getR x26).1)) false true)), (some (.cells (F_B x31.2.2) false true))] (roundX [2, 7, 9, 10, 11, 14] (st_osmosislaw5_WalCrash_L2 x26 x30 x6 x7 x31) (fin_osmosislaw5_WalCrash_L2 x26 x30 x6 x7 x31) r).1 (roundX [2, 7, 9, 10, 11, 14] (st_osmosislaw5_WalCrash_L2 x26 x30 x6 x7 x31) (fin_osmosislaw5_WalCrash_L2 x26 x30 x6 x7 x31) r).2.1 (roundX [2, 7, 9, 10, 11, 14] (st_osmosislaw5_WalCrash_L2 x26 x30 x6 x7 x31) (fin_osmosislaw5_WalCrash_L2 x26 x30 x6 x7 x31) r).2.2 := by
  obtain ⟨x34, hx34⟩ : ∃ x : Int, x = (getI ((getR x26).1) s33).getD default := ⟨_, rfl⟩
  have e : ∀ C : ACalls, wCode C (fun _ => none) KK 126 0 WB9_1 [(2, (.int .i64 x30)), (7, (.ptr (some (0, 0)))), (9, (l_LB x6)), (10, (l_LB x7)), (11, (.acc 1 0 1 (((getR x26).1).length) true)), (14, (.int .i64 s33))] [(some (.cells [(.acc 2 0 1 x31.2.2.length true), (.int .i64 x31.2.1)] false false)), (some (.cells (F_I ((getR x26).1)) false true)), (some (.cells (F_B x31.2.2) false true))] (.br 92 (.v 95 (.ptr (some (1, 0 + s33.toNat * 1))) (.v 96 (.int .i64 x34) (.br 99 (.en [2, 7, 9, 10, 11, 14] [none, none, none, none, none, none] [] []) (.en [7, 9, 10, 14] [none, none, none, none] [] [])))) (.en [7, 9, 10, 14] [none, none, none, none] [] [])) (roundX [2, 7, 9, 10, 11, 14] (st_osmosislaw5_WalCrash_L2 x26 x30 x6 x7 x31) (fin_osmosislaw5_WalCrash_L2 x26 x30 x6 x7 x31) r) = (((decide (s33 < (((getR x26).1).length : Int))) = true → (wP (.idxSlice 1 (.c (.acc 1 0 1 (((getR x26).1).length) true)) (.c (.int .i64 s33))) = some (.ptr (some (1, 0 + s33.toNat * 1))) ∧ (cPart false (0 + s33.toNat * 1) 1 (F_I ((getR x26).1)) = some (.int .i64 x34) ∧ (((decide (x34 ≤ x30)) = true → (.normal = (roundX [2, 7, 9, 10, 11, 14] (st_osmosislaw5_WalCrash_L2 x26 x30 x6 x7 x31) (fin_osmosislaw5_WalCrash_L2 x26 x30 x6 x7 x31) r).1 ∧ [(2, (.int .i64 x30)), (7, (.ptr (some (0, 0)))), (9, (l_LB x6)), (10, (l_LB x7)), (11, (.acc 1 0 1 (((getR x26).1).length) true)), (14, (.int .i64 (IntKind.i64.wrap (s33 + 1))))] = (roundX [2, 7, 9, 10, 11, 14] (st_osmosislaw5_WalCrash_L2 x26 x30 x6 x7 x31) (fin_osmosislaw5_WalCrash_L2 x26 x30 x6 x7 x31) r).2.1 ∧ [(some (.cells [(.acc 2 0 1 x31.2.2.length true), (.int .i64 x31.2.1)] false false)), (some (.cells (F_I ((getR x26).1)) false true)), (some (.cells (F_B x31.2.2) false true))] = (roundX [2, 7, 9, 10, 11, 14] (st_osmosislaw5_WalCrash_L2 x26 x30 x6 x7 x31) (fin_osmosislaw5_WalCrash_L2 x26 x30 x6 x7 x31) r).2.2)) ∧ ((decide (x34 ≤ x30)) = false → ((.exit 2) = (roundX [2, 7, 9, 10, 11, 14] (st_osmosislaw5_WalCrash_L2 x26 x30 x6 x7 x31) (fin_osmosislaw5_WalCrash_L2 x26 x30 x6 x7 x31) r).1 ∧ [(7, (.ptr (some (0, 0)))), (9, (l_LB x6)), (10, (l_LB x7)), (14, (.int .i64 s33))] = (roundX [2, 7, 9, 10, 11, 14] (st_osmosislaw5_WalCrash_L2 x26 x30 x6 x7 x31) (fin_osmosislaw5_WalCrash_L2 x26 x30 x6 x7 x31) r).2.1 ∧ [(some (.cells [(.acc 1 0 1 x31.2.2.length true), (.int .i64 x31.2.1)] false false)), (some (.cells (F_B x31.2.2) false true))] = (roundX [2, 7, 9, 10, 11, 14] (st_osmosislaw5_WalCrash_L2 x26 x30 x6 x7 x31) (fin_osmosislaw5_WalCrash_L2 x26 x30 x6 x7 x31) r).2.2)))))) ∧ ((decide (s33 < (((getR x26).1).length : Int))) = false → ((.exit 2) = (roundX [2, 7, 9, 10, 11, 14] (st_osmosislaw5_WalCrash_L2 x26 x30 x6 x7 x31) (fin_osmosislaw5_WalCrash_L2 x26 x30 x6 x7 x31) r).1 ∧ [(7, (.ptr (some (0, 0)))), (9, (l_LB x6)), (10, (l_LB x7)), (14, (.int .i64 s33))] = (roundX [2, 7, 9, 10, 11, 14] (st_osmosislaw5_WalCrash_L2 x26 x30 x6 x7 x31) (fin_osmosislaw5_WalCrash_L2 x26 x30 x6 x7 x31) r).2.1 ∧ [(some (.cells [(.acc 1 0 1 x31.2.2.length true), (.int .i64 x31.2.1)] false false)), (some (.cells (F_B x31.2.2) false true))] = (roundX [2, 7, 9, 10, 11, 14] (st_osmosislaw5_WalCrash_L2 x26 x30 x6 x7 x31) (fin_osmosislaw5_WalCrash_L2 x26 x30 x6 x7 x31) r).2.2))) := fun C => by kernel_rfl
  refine runS_of (fun _ _ h => by cases h) WB9_1_ok (Nat.le_of_ble_eq_true rfl) ((e _).mpr ?_)
  unfold osmosislaw5_WalCrash_L2_s at h
  refine ⟨fun hb => ?_, fun hb => ?_⟩
  · have h := cond_t hb h
    obtain ⟨q34, h⟩ := bget hx34 h
    refine ⟨wP_idxA R_I q34, ?_⟩
    refine ⟨cP_row (o := 0) R_I q34 rfl, ?_⟩
    refine ⟨fun hb => ?_, fun hb => ?_⟩
    · have h := cond_t hb h
      obtain rfl := Option.some.inj h
      exact ⟨rfl, by first | rfl | (simp only [roundX, zipKeep, fin_osmosislaw5_WalCrash_L2, st_osmosislaw5_WalCrash_L2, List.length_set, List.length_append, List.length_replicate, List.length_cons, List.length_nil, Nat.add_zero, Nat.zero_add]; done) | simp [roundX, zipKeep, fin_osmosislaw5_WalCrash_L2, st_osmosislaw5_WalCrash_L2], by first | rfl | (simp only [roundX, zipKeep, fin_osmosislaw5_WalCrash_L2, st_osmosislaw5_WalCrash_L2, List.length_set, List.length_append, List.length_replicate, List.length_cons, List.length_nil, Nat.add_zero, Nat.zero_add]; done) | simp [roundX, zipKeep, fin_osmosislaw5_WalCrash_L2, st_osmosislaw5_WalCrash_L2]⟩
    · have h := cond_f hb h
      obtain rfl := Option.some.inj h
      exact ⟨rfl, by first | rfl | (simp only [roundX, zipKeep, fin_osmosislaw5_WalCrash_L2, st_osmosislaw5_WalCrash_L2, List.length_set, List.length_append, List.length_replicate, List.length_cons, List.length_nil, Nat.add_zero, Nat.zero_add]; done) | simp [roundX, zipKeep, fin_osmosislaw5_WalCrash_L2, st_osmosislaw5_WalCrash_L2], by first | rfl | (simp only [roundX, zipKeep, fin_osmosislaw5_WalCrash_L2, st_osmosislaw5_WalCrash_L2, List.length_set, List.length_append, List.length_replicate, List.length_cons, List.length_nil, Nat.add_zero, Nat.zero_add]; done) | simp [roundX, zipKeep, fin_osmosislaw5_WalCrash_L2, st_osmosislaw5_WalCrash_L2]⟩
  · have h := cond_f hb h
    obtain rfl := Option.some.inj h
    exact ⟨rfl, by first | rfl | (simp only [roundX, zipKeep, fin_osmosislaw5_WalCrash_L2, st_osmosislaw5_WalCrash_L2, List.length_set, List.length_append, List.length_replicate, List.length_cons, List.length_nil, Nat.add_zero, Nat.zero_add]; done) | simp [roundX, zipKeep, fin_osmosislaw5_WalCrash_L2, st_osmosislaw5_WalCrash_L2], by first | rfl | (simp only [roundX, zipKeep, fin_osmosislaw5_WalCrash_L2, st_osmosislaw5_WalCrash_L2, List.length_set, List.length_append, List.length_replicate, List.length_cons, List.length_nil, Nat.add_zero, Nat.zero_add]; done) | simp [roundX, zipKeep, fin_osmosislaw5_WalCrash_L2, st_osmosislaw5_WalCrash_L2]⟩
theorem s_osmosislaw5_WalCrash_L2 (d : Nat) {x26 : Unit ⊕ (List Int × List UInt8)} {x30 : Int} {x6 : List (List UInt8)} {x7 : List (List UInt8)} {x31 : Int × Int × List UInt8} {s33 : Int} {r : Int} (h : osmosislaw5_WalCrash_L2 x26 x30 x6 x7 x31 s33 = some r) : RunS (bloop (bexec (wcalls atab (d + 0)) KK 126 WB9_1) [2, 7, 9, 10, 11, 14] KK) 0 [(2, (.int .i64 x30)), (7, (.ptr (some (0, 0)))), (9, (l_LB x6)), (10, (l_LB x7)), (11, (.acc 1 0 1 (((getR x26).1).length) true)), (14, (.int .i64 s33))] [(some (.cells [(.acc 2 0 1 x31.2.2.length true), (.int .i64 x31.2.1)] false false)), (some (.cells (F_I ((getR x26).1)) false true)), (some (.cells (F_B x31.2.2) false true))] (fin_osmosislaw5_WalCrash_L2 x26 x30 x6 x7 x31 r).1 (fin_osmosislaw5_WalCrash_L2 x26 x30 x6 x7 x31 r).2.1 (fin_osmosislaw5_WalCrash_L2 x26 x30 x6 x7 x31 r).2.2 :=
  loop_of (st := st_osmosislaw5_WalCrash_L2 x26 x30 x6 x7 x31) (fin := fin_osmosislaw5_WalCrash_L2 x26 x30 x6 x7 x31) (step := osmosislaw5_WalCrash_L2_s x26 x30 x6 x7 x31) (fun e => by (intro h; cases h)) (fun s x h => b_osmosislaw5_WalCrash_L2 d h) KK s33 r h

def osmosislaw5_WalCrash (synced : List (List UInt8)) (tail : List (List UInt8)) (keep : Int) : Option (Bool) :=
  (disk_New).bind fun (x1 : Int) => (wal_Open x1).bind fun (x2 : Int × List UInt8) => (osmosislaw5_WalCrash_J0 synced tail keep x2).bind fun (x4 : Unit ⊕ Unit) => cond (isL x4) (some false) ((osmosislaw5_some synced).bind fun (x6 : List (List UInt8)) => (osmosislaw5_some tail).bind fun (x7 : List (List UInt8)) => (wal_Log_Add x6 x2.1 x2.2).bind fun (x8 : Bool × List UInt8) => cond (!x8.1) (some false) ((disk_Disk_Sync x2.1 x8.2).bind fun (x9 : Int × Int) => (osmosislaw5_WalCrash_L1 x7 x9 keep x6 (0, [], x8.2)).bind fun (x26 : Unit ⊕ (List Int × List UInt8)) => cond (isL x26) (some false) ((disk_Disk_Size x9.2 ((getR x26).2)).bind fun (x28 : Int) => (disk_Disk_Synced x9.2 ((getR x26).2)).bind fun (x29 : Int) => (osmosishand_Pick keep (IntKind.i64.wrap ((IntKind.i64.wrap (x28 - x29)) + 1))).bind fun (x30 : Int) => (disk_Disk_Crash x30 x9.2 ((getR x26).2)).bind fun (x31 : Int × Int × List UInt8) => (osmosislaw5_WalCrash_L2 x26 x30 x6 x7 x31 0).bind fun (x35 : Int) => (wal_Open_2 x31.2.1 x31.2.2).bind fun (x36 : Int × List UInt8) => (wal_Log_Records x36.1 x36.2).bind fun (x37 : List (List UInt8)) => gd (fitsB 24 x6.length) ((slI x7 0 x35).bind fun (x39 : List (List UInt8)) => gd (fitsB 24 (x6 ++ x39).length) ((osmosislaw5_same x37 (x6 ++ x39)).bind fun (x41 : Bool) => cond x41 ((disk_Disk_Sync x36.1 x36.2).bind fun (x42 : Int × Int) => some (x42.1 == 0)) (some false))))))

theorem s_osmosislaw5_WalCrash (d : Nat) {synced : List (List UInt8)} {tail : List (List UInt8)} {keep : Int} {r : Bool} (h : osmosislaw5_WalCrash synced tail keep = some r) : Spec (wcalls atab (d + 9)) 9 [(l_LB synced), (l_LB tail), (.int .i64 keep)] [] (.bool r) [] := by
  obtain ⟨x1, hx1⟩ : ∃ x : Int, x = (disk_New).getD default := ⟨_, rfl⟩
  obtain ⟨x2, hx2⟩ : ∃ x : Int × List UInt8, x = (wal_Open x1).getD default := ⟨_, rfl⟩
  obtain ⟨x4, hx4⟩ : ∃ x : Unit ⊕ Unit, x = (osmosislaw5_WalCrash_J0 synced tail keep x2).getD default := ⟨_, rfl⟩
  obtain ⟨x6, hx6⟩ : ∃ x : List (List UInt8), x = (osmosislaw5_some synced).getD default := ⟨_, rfl⟩
  obtain ⟨x7, hx7⟩ : ∃ x : List (List UInt8), x = (osmosislaw5_some tail).getD default := ⟨_, rfl⟩
  obtain ⟨x8, hx8⟩ : ∃ x : Bool × List UInt8, x = (wal_Log_Add x6 x2.1 x2.2).getD default := ⟨_, rfl⟩
  obtain ⟨x9, hx9⟩ : ∃ x : Int × Int, x = (disk_Disk_Sync x2.1 x8.2).getD default := ⟨_, rfl⟩
  obtain ⟨x26, hx26⟩ : ∃ x : Unit ⊕ (List Int × List UInt8), x = (osmosislaw5_WalCrash_L1 x7 x9 keep x6 (0, [], x8.2)).getD default := ⟨_, rfl⟩
  obtain ⟨x28, hx28⟩ : ∃ x : Int, x = (disk_Disk_Size x9.2 ((getR x26).2)).getD default := ⟨_, rfl⟩
  obtain ⟨x29, hx29⟩ : ∃ x : Int, x = (disk_Disk_Synced x9.2 ((getR x26).2)).getD default := ⟨_, rfl⟩
  obtain ⟨x30, hx30⟩ : ∃ x : Int, x = (osmosishand_Pick keep (IntKind.i64.wrap ((IntKind.i64.wrap (x28 - x29)) + 1))).getD default := ⟨_, rfl⟩
  obtain ⟨x31, hx31⟩ : ∃ x : Int × Int × List UInt8, x = (disk_Disk_Crash x30 x9.2 ((getR x26).2)).getD default := ⟨_, rfl⟩
  obtain ⟨x35, hx35⟩ : ∃ x : Int, x = (osmosislaw5_WalCrash_L2 x26 x30 x6 x7 x31 0).getD default := ⟨_, rfl⟩
  obtain ⟨x36, hx36⟩ : ∃ x : Int × List UInt8, x = (wal_Open_2 x31.2.1 x31.2.2).getD default := ⟨_, rfl⟩
  obtain ⟨x37, hx37⟩ : ∃ x : List (List UInt8), x = (wal_Log_Records x36.1 x36.2).getD default := ⟨_, rfl⟩
  obtain ⟨x39, hx39⟩ : ∃ x : List (List UInt8), x = (slI x7 0 x35).getD default := ⟨_, rfl⟩
  obtain ⟨x41, hx41⟩ : ∃ x : Bool, x = (osmosislaw5_same x37 (x6 ++ x39)).getD default := ⟨_, rfl⟩
  obtain ⟨x42, hx42⟩ : ∃ x : Int × Int, x = (disk_Disk_Sync x36.1 x36.2).getD default := ⟨_, rfl⟩
  have e : ∀ C : ACalls, wBody C (fun _ => none) KK WF9 [(l_LB synced), (l_LB tail), (.int .i64 keep)] [] (.call [] (some false) [] (.ptr (some (0, 0))) [(some (.cells [(.slice none 1 0 0 true), (.int .i64 x1)] false false))] (.call [] none [] (.ptr (some (1, 0))) [(some (.cells [(.acc 2 0 1 x2.2.length true), (.int .i64 x2.1)] false false)), (some (.cells [(.ptr (some (0, 0)))] false false)), (some (.cells (F_B x2.2) false true))] (.ite (isL x4) (.jn [0, 1, 2, 7, 8] [none, none, none, none, none] [] [] .ret [(6, (.bool false))] [] (.fin (some false) [] none)) (.jn [0, 1, 2, 7, 8] [none, none, none, none, none] [] [] .normal [(0, (l_LB synced)), (1, (l_LB tail)), (2, (.int .i64 keep)), (7, (.ptr (some (0, 0)))), (8, (.ptr (some (1, 0))))] [(some (.cells [(.acc 2 0 1 x2.2.length true), (.int .i64 x2.1)] false false)), (some (.cells [(.ptr (some (0, 0)))] false false)), (some (.cells (F_B x2.2) false true))] (.call [] (some false) [] (l_LB x6) [] (.call [] (some false) [] (l_LB x7) [] (.call [] none [] (.bool x8.1) [(some (.cells [(.ptr (some (1, 0)))] false false)), (some (.cells [(.acc 3 0 1 x8.2.length true), (.int .i64 x2.1)] false false)), none, (some (.cells (F_B x8.2) false true))] (.br 36 (.fin (some false) [] none) (.call [] none [] (.int .i64 x9.1) [(some (.cells [(.acc 1 0 1 x8.2.length true), (.int .i64 x9.2)] false false)), (some (.cells (F_B x8.2) false true))] (.ite (isL x26) (.lp [none, none, none, none, none, (some true), none, none, none] [] [] .ret [(6, (.bool false))] [] (.fin (some false) [] none)) (.lp [none, none, none, none, none, (some true), none, none, none] [] [] (.exit 0) [(2, (.int .i64 keep)), (7, (.ptr (some (0, 0)))), (8, (.ptr (some (1, 0)))), (9, (l_LB x6)), (10, (l_LB x7)), (11, (.acc 2 0 1 (((getR x26).1).length) true))] [(some (.cells [(.acc 3 0 1 (((getR x26).2).length) true), (.int .i64 x9.2)] false false)), (some (.cells [(.ptr (some (0, 0)))] false false)), (some (.cells (F_I ((getR x26).1)) false true)), (some (.cells (F_B ((getR x26).2)) false true))] (.call [] none [] (.int .i64 x28) [(some (.cells [(.acc 1 0 1 (((getR x26).2).length) true), (.int .i64 x9.2)] false false)), (some (.cells (F_B ((getR x26).2)) false true))] (.call [] none [] (.int .i64 x29) [(some (.cells [(.acc 1 0 1 (((getR x26).2).length) true), (.int .i64 x9.2)] false false)), (some (.cells (F_B ((getR x26).2)) false true))] (.cb [] [] (.int .i64 x30) (.call [] none [] (.int .i64 x31.1) [(some (.cells [(.acc 2 0 1 x31.2.2.length true), (.int .i64 x31.2.1)] false false)), none, (some (.cells (F_B x31.2.2) false true))] (.lp [none, none, none, none, none, none] [] [] (.exit 2) [(7, (.ptr (some (0, 0)))), (9, (l_LB x6)), (10, (l_LB x7)), (14, (.int .i64 x35))] [(some (.cells [(.acc 1 0 1 x31.2.2.length true), (.int .i64 x31.2.1)] false false)), (some (.cells (F_B x31.2.2) false true))] (.call [] none [] (.ptr (some (2, 0))) [(some (.cells [(.acc 3 0 1 x36.2.length true), (.int .i64 x36.1)] false false)), none, (some (.cells [(.ptr (some (0, 0)))] false false)), (some (.cells (F_B x36.2) false true))] (.call [] none [] (l_LB x37) [(some (.cells [(.ptr (some (1, 0)))] false false)), (some (.cells [(.acc 2 0 1 x36.2.length true), (.int .i64 x36.1)] false false)), (some (.cells (F_B x36.2) false true))] (.ap 111 x6.length (F_LB x6) (.v 114 (l_LB x39) (.ap 115 (x6 ++ x39).length (F_LB (x6 ++ x39)) (.cb [] [] (.bool x41) (.br 118 (.call [] none [] (.int .i64 x42.1) [(some (.cells [(.acc 1 0 1 x36.2.length true), (.int .i64 x42.2)] false false)), (some (.cells (F_B x36.2) false true))] (.fin (some false) [] none)) (.fin (some false) [] none)))))))))))))))))))))))) (.bool r) [] = (3 = 3 ∧ 3 ≤ 126 ∧ (Spec C 30 [] [] (.ptr (some (0, 0))) [(some (.cells [(.slice none 1 0 0 true), (.int .i64 x1)] false false))] ∧ (0 ≤ 1 ∧ (Spec C 31 [(.ptr (some (0, 0)))] [(some (.cells [(.slice none 1 0 0 true), (.int .i64 x1)] false false))] (.ptr (some (1, 0))) [(some (.cells [(.acc 2 0 1 x2.2.length true), (.int .i64 x2.1)] false false)), (some (.cells [(.ptr (some (0, 0)))] false false)), (some (.cells (F_B x2.2) false true))] ∧ (1 ≤ 3 ∧ (((isL x4) = true → (RunS (bexec C KK 126 WJ9_bbba) 0 [(0, (l_LB synced)), (1, (l_LB tail)), (2, (.int .i64 keep)), (7, (.ptr (some (0, 0)))), (8, (.ptr (some (1, 0))))] [(some (.cells [(.acc 2 0 1 x2.2.length true), (.int .i64 x2.1)] false false)), (some (.cells [(.ptr (some (0, 0)))] false false)), (some (.cells (F_B x2.2) false true))] .ret [(6, (.bool false))] [] ∧ (@Eq AV (.bool false) (.bool r) ∧ @Eq WH [] []))) ∧ ((isL x4) = false → (RunS (bexec C KK 126 WJ9_bbba) 0 [(0, (l_LB synced)), (1, (l_LB tail)), (2, (.int .i64 keep)), (7, (.ptr (some (0, 0)))), (8, (.ptr (some (1, 0))))] [(some (.cells [(.acc 2 0 1 x2.2.length true), (.int .i64 x2.1)] false false)), (some (.cells [(.ptr (some (0, 0)))] false false)), (some (.cells (F_B x2.2) false true))] .normal [(0, (l_LB synced)), (1, (l_LB tail)), (2, (.int .i64 keep)), (7, (.ptr (some (0, 0)))), (8, (.ptr (some (1, 0))))] [(some (.cells [(.acc 2 0 1 x2.2.length true), (.int .i64 x2.1)] false false)), (some (.cells [(.ptr (some (0, 0)))] false false)), (some (.cells (F_B x2.2) false true))] ∧ (Spec C 33 [(l_LB synced)] [] (l_LB x6) [] ∧ (0 ≤ 0 ∧ (Spec C 33 [(l_LB tail)] [] (l_LB x7) [] ∧ (0 ≤ 0 ∧ (Spec C 35 [(.ptr (some (0, 0))), (l_LB x6)] [(some (.cells [(.ptr (some (1, 0)))] false false)), (some (.cells [(.acc 2 0 1 x2.2.length true), (.int .i64 x2.1)] false false)), (some (.cells (F_B x2.2) false true))] (.bool x8.1) [(some (.cells [(.ptr (some (1, 0)))] false false)), (some (.cells [(.acc 3 0 1 x8.2.length true), (.int .i64 x2.1)] false false)), none, (some (.cells (F_B x8.2) false true))] ∧ (3 ≤ 4 ∧ (((!x8.1) = true → (@Eq AV (.bool false) (.bool r) ∧ @Eq WH [] [])) ∧ ((!x8.1) = false → (Spec C 38 [(.ptr (some (0, 0)))] [(some (.cells [(.acc 1 0 1 x8.2.length true), (.int .i64 x2.1)] false false)), (some (.cells (F_B x8.2) false true))] (.int .i64 x9.1) [(some (.cells [(.acc 1 0 1 x8.2.length true), (.int .i64 x9.2)] false false)), (some (.cells (F_B x8.2) false true))] ∧ (2 ≤ 2 ∧ (((isL x26) = true → (RunS (bloop (bexec C KK 126 WB9_0) [2, 7, 8, 9, 10, 11, 42, 43, 44] KK) 0 [(2, (.int .i64 keep)), (7, (.ptr (some (0, 0)))), (8, (.ptr (some (1, 0)))), (9, (l_LB x6)), (10, (l_LB x7)), (11, (.acc 2 0 1 0 true)), (42, (l_LB x7)), (43, (.int .i64 (x7.length : Int))), (44, (.int .i64 0))] [(some (.cells [(.acc 3 0 1 x8.2.length true), (.int .i64 x9.2)] false false)), (some (.cells [(.ptr (some (0, 0)))] false false)), (some (.cells (F_I []) false true)), (some (.cells (F_B x8.2) false true))] .ret [(6, (.bool false))] [] ∧ (@Eq AV (.bool false) (.bool r) ∧ @Eq WH [] []))) ∧ ((isL x26) = false → (RunS (bloop (bexec C KK 126 WB9_0) [2, 7, 8, 9, 10, 11, 42, 43, 44] KK) 0 [(2, (.int .i64 keep)), (7, (.ptr (some (0, 0)))), (8, (.ptr (some (1, 0)))), (9, (l_LB x6)), (10, (l_LB x7)), (11, (.acc 2 0 1 0 true)), (42, (l_LB x7)), (43, (.int .i64 (x7.length : Int))), (44, (.int .i64 0))] [(some (.cells [(.acc 3 0 1 x8.2.length true), (.int .i64 x9.2)] false false)), (some (.cells [(.ptr (some (0, 0)))] false false)), (some (.cells (F_I []) false true)), (some (.cells (F_B x8.2) false true))] (.exit 0) [(2, (.int .i64 keep)), (7, (.ptr (some (0, 0)))), (8, (.ptr (some (1, 0)))), (9, (l_LB x6)), (10, (l_LB x7)), (11, (.acc 2 0 1 (((getR x26).1).length) true))] [(some (.cells [(.acc 3 0 1 (((getR x26).2).length) true), (.int .i64 x9.2)] false false)), (some (.cells [(.ptr (some (0, 0)))] false false)), (some (.cells (F_I ((getR x26).1)) false true)), (some (.cells (F_B ((getR x26).2)) false true))] ∧ (Spec C 39 [(.ptr (some (0, 0)))] [(some (.cells [(.acc 1 0 1 (((getR x26).2).length) true), (.int .i64 x9.2)] false false)), (some (.cells (F_B ((getR x26).2)) false true))] (.int .i64 x28) [(some (.cells [(.acc 1 0 1 (((getR x26).2).length) true), (.int .i64 x9.2)] false false)), (some (.cells (F_B ((getR x26).2)) false true))] ∧ (2 ≤ 2 ∧ (Spec C 40 [(.ptr (some (0, 0)))] [(some (.cells [(.acc 1 0 1 (((getR x26).2).length) true), (.int .i64 x9.2)] false false)), (some (.cells (F_B ((getR x26).2)) false true))] (.int .i64 x29) [(some (.cells [(.acc 1 0 1 (((getR x26).2).length) true), (.int .i64 x9.2)] false false)), (some (.cells (F_B ((getR x26).2)) false true))] ∧ (2 ≤ 2 ∧ (Spec C 28 [(.int .i64 keep), (.int .i64 (IntKind.i64.wrap ((IntKind.i64.wrap (x28 - x29)) + 1)))] [] (.int .i64 x30) [] ∧ (Spec C 41 [(.ptr (some (0, 0))), (.int .i64 x30)] [(some (.cells [(.acc 1 0 1 (((getR x26).2).length) true), (.int .i64 x9.2)] false false)), (some (.cells (F_B ((getR x26).2)) false true))] (.int .i64 x31.1) [(some (.cells [(.acc 2 0 1 x31.2.2.length true), (.int .i64 x31.2.1)] false false)), none, (some (.cells (F_B x31.2.2) false true))] ∧ (2 ≤ 3 ∧ (RunS (bloop (bexec C KK 126 WB9_1) [2, 7, 9, 10, 11, 14] KK) 0 [(2, (.int .i64 x30)), (7, (.ptr (some (0, 0)))), (9, (l_LB x6)), (10, (l_LB x7)), (11, (.acc 1 0 1 (((getR x26).1).length) true)), (14, (.int .i64 0))] [(some (.cells [(.acc 2 0 1 x31.2.2.length true), (.int .i64 x31.2.1)] false false)), (some (.cells (F_I ((getR x26).1)) false true)), (some (.cells (F_B x31.2.2) false true))] (.exit 2) [(7, (.ptr (some (0, 0)))), (9, (l_LB x6)), (10, (l_LB x7)), (14, (.int .i64 x35))] [(some (.cells [(.acc 1 0 1 x31.2.2.length true), (.int .i64 x31.2.1)] false false)), (some (.cells (F_B x31.2.2) false true))] ∧ (Spec C 31 [(.ptr (some (0, 0)))] [(some (.cells [(.acc 1 0 1 x31.2.2.length true), (.int .i64 x31.2.1)] false false)), (some (.cells (F_B x31.2.2) false true))] (.ptr (some (2, 0))) [(some (.cells [(.acc 3 0 1 x36.2.length true), (.int .i64 x36.1)] false false)), none, (some (.cells [(.ptr (some (0, 0)))] false false)), (some (.cells (F_B x36.2) false true))] ∧ (2 ≤ 4 ∧ (Spec C 36 [(.ptr (some (0, 0)))] [(some (.cells [(.ptr (some (1, 0)))] false false)), (some (.cells [(.acc 2 0 1 x36.2.length true), (.int .i64 x36.1)] false false)), (some (.cells (F_B x36.2) false true))] (l_LB x37) [(some (.cells [(.ptr (some (1, 0)))] false false)), (some (.cells [(.acc 2 0 1 x36.2.length true), (.int .i64 x36.1)] false false)), (some (.cells (F_B x36.2) false true))] ∧ (3 ≤ 3 ∧ (0 + x6.length = x6.length ∧ (F_LB [] ++ F_LB x6 = F_LB x6 ∧ (fitsB 24 x6.length = true ∧ (wP (.slice 1 (.c (l_LB x7)) none (some (.c (.int .i64 x35))) none) = some (l_LB x39) ∧ (x6.length + x39.length = (x6 ++ x39).length ∧ (F_LB x6 ++ F_LB x39 = F_LB (x6 ++ x39) ∧ (fitsB 24 (x6 ++ x39).length = true ∧ (Spec C 37 [(l_LB x37), (l_LB (x6 ++ x39))] [] (.bool x41) [] ∧ ((x41 = true → (Spec C 38 [(.ptr (some (0, 0)))] [(some (.cells [(.acc 1 0 1 x36.2.length true), (.int .i64 x36.1)] false false)), (some (.cells (F_B x36.2) false true))] (.int .i64 x42.1) [(some (.cells [(.acc 1 0 1 x36.2.length true), (.int .i64 x42.2)] false false)), (some (.cells (F_B x36.2) false true))] ∧ (2 ≤ 2 ∧ (@Eq AV (.bool (x42.1 == 0)) (.bool r) ∧ @Eq WH [] [])))) ∧ (x41 = false → (@Eq AV (.bool false) (.bool r) ∧ @Eq WH [] [])))))))))))))))))))))))))))))))))))))))))))) := fun C => by kernel_rfl
  refine spec_of (fun _ _ h => by cases h) rfl atab_9 WF9_ok ((e _).mpr ⟨rfl, by decide, ?_⟩)
  unfold osmosislaw5_WalCrash at h
  obtain ⟨q1, h⟩ := bget hx1 h
  refine ⟨s_disk_New (d + 7) q1, ?_⟩
  refine ⟨by decide, ?_⟩
  obtain ⟨q2, h⟩ := bget hx2 h
  refine ⟨s_wal_Open (d + 1) q2, ?_⟩
  refine ⟨by decide, ?_⟩
  obtain ⟨q4, h⟩ := bget hx4 h
  refine ⟨fun hb5 => ?_, fun hb5 => ?_⟩
  · have h := cond_t hb5 h
    refine ⟨by have h := s_osmosislaw5_WalCrash_J0 (d + 0) q4; rw [isL_t hb5] at h; exact h, ?_⟩
    obtain rfl := Option.some.inj h
    exact ⟨by wleaf, by wleaf⟩
  · have h := cond_f hb5 h
    refine ⟨by have h := s_osmosislaw5_WalCrash_J0 (d + 0) q4; rw [isL_f hb5] at h; exact h, ?_⟩
    obtain ⟨q6, h⟩ := bget hx6 h
    refine ⟨s_osmosislaw5_some (d + 6) q6, ?_⟩
    refine ⟨by decide, ?_⟩
    obtain ⟨q7, h⟩ := bget hx7 h
    refine ⟨s_osmosislaw5_some (d + 6) q7, ?_⟩
    refine ⟨by decide, ?_⟩
    obtain ⟨q8, h⟩ := bget hx8 h
    refine ⟨s_wal_Log_Add (d + 3) q8, ?_⟩
    refine ⟨by decide, ?_⟩
    refine ⟨fun hb => ?_, fun hb => ?_⟩
    · have h := cond_t hb h
      obtain rfl := Option.some.inj h
      exact ⟨by wleaf, by wleaf⟩
    · have h := cond_f hb h
      obtain ⟨q9, h⟩ := bget hx9 h
      refine ⟨s_disk_Disk_Sync (d + 7) q9, ?_⟩
      refine ⟨by decide, ?_⟩
      obtain ⟨q26, h⟩ := bget hx26 h
      refine ⟨fun hb27 => ?_, fun hb27 => ?_⟩
      · have h := cond_t hb27 h
        refine ⟨by have h := s_osmosislaw5_WalCrash_L1 (d + 3) q26; rw [isL_t hb27] at h; exact h, ?_⟩
        obtain rfl := Option.some.inj h
        exact ⟨by wleaf, by wleaf⟩
      · have h := cond_f hb27 h
        refine ⟨by have h := s_osmosislaw5_WalCrash_L1 (d + 3) q26; rw [isL_f hb27] at h; exact h, ?_⟩
        obtain ⟨q28, h⟩ := bget hx28 h
        refine ⟨s_disk_Disk_Size (d + 7) q28, ?_⟩
        refine ⟨by decide, ?_⟩
        obtain ⟨q29, h⟩ := bget hx29 h
        refine ⟨s_disk_Disk_Synced (d + 7) q29, ?_⟩
        refine ⟨by decide, ?_⟩
        obtain ⟨q30, h⟩ := bget hx30 h
        refine ⟨s_osmosishand_Pick (d + 7) q30, ?_⟩
        obtain ⟨q31, h⟩ := bget hx31 h
        refine ⟨s_disk_Disk_Crash (d + 7) q31, ?_⟩
        refine ⟨by decide, ?_⟩
        obtain ⟨q35, h⟩ := bget hx35 h
        refine ⟨s_osmosislaw5_WalCrash_L2 (d + 8) q35, ?_⟩
        obtain ⟨q36, h⟩ := bget hx36 h
        refine ⟨s_wal_Open_2 (d + 1) q36, ?_⟩
        refine ⟨by decide, ?_⟩
        obtain ⟨q37, h⟩ := bget hx37 h
        refine ⟨s_wal_Log_Records (d + 1) q37, ?_⟩
        refine ⟨by decide, ?_⟩
        obtain ⟨q38, h⟩ := gd_some h
        refine ⟨by simp, ?_⟩
        refine ⟨by first | rfl | simp [F_LB], ?_⟩
        refine ⟨q38, ?_⟩
        obtain ⟨q39, h⟩ := bget hx39 h
        refine ⟨wP_sl_h R_LB q39, ?_⟩
        obtain ⟨q40, h⟩ := gd_some h
        refine ⟨app_len _ _, ?_⟩
        refine ⟨(Row.app R_LB _ _).symm, ?_⟩
        refine ⟨q40, ?_⟩
        obtain ⟨q41, h⟩ := bget hx41 h
        refine ⟨s_osmosislaw5_same (d + 7) q41, ?_⟩
        refine ⟨fun hb => ?_, fun hb => ?_⟩
        · have h := cond_t hb h
          obtain ⟨q42, h⟩ := bget hx42 h
          refine ⟨s_disk_Disk_Sync (d + 7) q42, ?_⟩
          refine ⟨by decide, ?_⟩
          obtain rfl := Option.some.inj h
          exact ⟨by wleaf, by wleaf⟩
        · have h := cond_f hb h
          obtain rfl := Option.some.inj h
          exact ⟨by wleaf, by wleaf⟩

/- (*osmosis/wal.Log).Rewrite -/
def wal_Log_Rewrite (records : List (List UInt8)) (p_b1 : Int) (p_b2 : List UInt8) : Option (Bool × Int × List UInt8) :=
  (wal_long records).bind fun (x1 : Bool) => cond (!x1) ((frame_Lay [] records).bind fun (x2 : List UInt8) => (disk_Disk_Swap_2 x2 p_b1 p_b2).bind fun (x3 : Bool × Int × List UInt8) => some (x3.1, x3.2.1, x3.2.2)) (some (false, p_b1, p_b2))

theorem s_wal_Log_Rewrite (d : Nat) {records : List (List UInt8)} {p_b1 : Int} {p_b2 : List UInt8} {r : Bool × Int × List UInt8} (h : wal_Log_Rewrite records p_b1 p_b2 = some r) : Spec (wcalls atab (d + 5)) 42 [(.ptr (some (0, 0))), (l_LB records)] [(some (.cells [(.ptr (some (1, 0)))] false false)), (some (.cells [(.acc 2 0 1 p_b2.length true), (.int .i64 p_b1)] false false)), (some (.cells (F_B p_b2) false true))] (.bool r.1) [(some (.cells [(.ptr (some (1, 0)))] false false)), (some (.cells [(.acc 3 0 1 r.2.2.length true), (.int .i64 r.2.1)] false false)), none, (some (.cells (F_B r.2.2) false true))] := by
  obtain ⟨x1, hx1⟩ : ∃ x : Bool, x = (wal_long records).getD default := ⟨_, rfl⟩
  obtain ⟨x2, hx2⟩ : ∃ x : List UInt8, x = (frame_Lay [] records).getD default := ⟨_, rfl⟩
  obtain ⟨x3, hx3⟩ : ∃ x : Bool × Int × List UInt8, x = (disk_Disk_Swap_2 x2 p_b1 p_b2).getD default := ⟨_, rfl⟩
  have e : ∀ C : ACalls, wBody C (fun _ => none) KK WF42 [(.ptr (some (0, 0))), (l_LB records)] [(some (.cells [(.ptr (some (1, 0)))] false false)), (some (.cells [(.acc 2 0 1 p_b2.length true), (.int .i64 p_b1)] false false)), (some (.cells (F_B p_b2) false true))] (.cb [] [] (.bool x1) (.br 8 (.call [] (some false) [] (l_B x2) [] (.call [] none [] (.bool x3.1) [(some (.cells [(.acc 2 0 1 x3.2.2.length true), (.int .i64 x3.2.1)] false false)), none, (some (.cells (F_B x3.2.2) false true))] (.fin (some false) [] (some true)))) (.fin (some false) [] (some true)))) (.bool r.1) [(some (.cells [(.ptr (some (1, 0)))] false false)), (some (.cells [(.acc 3 0 1 r.2.2.length true), (.int .i64 r.2.1)] false false)), none, (some (.cells (F_B r.2.2) false true))] = (2 = 2 ∧ 2 ≤ 17 ∧ (Spec C 92 [(l_LB records)] [] (.bool x1) [] ∧ (((!x1) = true → (Spec C 23 [(l_B []), (l_LB records)] [] (l_B x2) [] ∧ (0 ≤ 0 ∧ (Spec C 91 [(.ptr (some (0, 0))), (l_B x2)] [(some (.cells [(.acc 1 0 1 p_b2.length true), (.int .i64 p_b1)] false false)), (some (.cells (F_B p_b2) false true))] (.bool x3.1) [(some (.cells [(.acc 2 0 1 x3.2.2.length true), (.int .i64 x3.2.1)] false false)), none, (some (.cells (F_B x3.2.2) false true))] ∧ (2 ≤ 3 ∧ (@Eq AV (.bool x3.1) (.bool r.1) ∧ @Eq WH [(some (.cells [(.ptr (some (1, 0)))] false false)), (some (.cells [(.acc 3 0 1 x3.2.2.length true), (.int .i64 x3.2.1)] false false)), none, (some (.cells (F_B x3.2.2) false true))] [(some (.cells [(.ptr (some (1, 0)))] false false)), (some (.cells [(.acc 3 0 1 r.2.2.length true), (.int .i64 r.2.1)] false false)), none, (some (.cells (F_B r.2.2) false true))])))))) ∧ ((!x1) = false → (@Eq AV (.bool false) (.bool r.1) ∧ @Eq WH [(some (.cells [(.ptr (some (1, 0)))] false false)), (some (.cells [(.acc 3 0 1 p_b2.length true), (.int .i64 p_b1)] false false)), none, (some (.cells (F_B p_b2) false true))] [(some (.cells [(.ptr (some (1, 0)))] false false)), (some (.cells [(.acc 3 0 1 r.2.2.length true), (.int .i64 r.2.1)] false false)), none, (some (.cells (F_B r.2.2) false true))]))))) := fun C => by kernel_rfl
  refine spec_of (fun _ _ h => by cases h) rfl atab_42 WF42_ok ((e _).mpr ⟨rfl, by decide, ?_⟩)
  unfold wal_Log_Rewrite at h
  obtain ⟨q1, h⟩ := bget hx1 h
  refine ⟨s_wal_long (d + 0) q1, ?_⟩
  refine ⟨fun hb => ?_, fun hb => ?_⟩
  · have h := cond_t hb h
    obtain ⟨q2, h⟩ := bget hx2 h
    refine ⟨s_frame_Lay (d + 1) q2, ?_⟩
    refine ⟨by decide, ?_⟩
    obtain ⟨q3, h⟩ := bget hx3 h
    refine ⟨s_disk_Disk_Swap_2 (d + 2) q3, ?_⟩
    refine ⟨by decide, ?_⟩
    obtain rfl := Option.some.inj h
    exact ⟨by wleaf, by wleaf⟩
  · have h := cond_f hb h
    obtain rfl := Option.some.inj h
    exact ⟨by wleaf, by wleaf⟩

end Go.Proofs.Ytachollgbplikaa
