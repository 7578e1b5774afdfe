/- Functions as Lean functions, part 1. -/
import Derived.Test.YteibgagdnidojaaXt
import Derived.Test.YteibgagdnidojaaXs
set_option linter.all false
set_option maxRecDepth 100000
namespace Go.Proofs.Yteibgagdnidojaa
/- osmosis/osmosishand.Pick -/
def osmosishand_Pick (n : Int) (m : Int) : Option (Int) :=
  (remI .i64 n m).bind fun (x1 : Int) => cond (decide (x1 < 0)) (some (IntKind.i64.wrap (x1 + m))) (some x1)
def out_osmosishand_Pick (n : Int) (m : Int) (r : Int) : AV × WH := ((.int .i64 r), [])

theorem s_osmosishand_Pick (d : Nat) {n : Int} {m : Int} {r : Int} (h : osmosishand_Pick n m = some r) : Spec (wcalls atab (d + 1)) 26 [(.int .i64 n), (.int .i64 m)] [] (out_osmosishand_Pick n m r).1 (out_osmosishand_Pick n m r).2 := by
  obtain ⟨x1, hx1⟩ := wx (remI .i64 n m)
  have e : ∀ C : ACalls, wBody C (fun _ => none) KK WF26 [(.int .i64 n), (.int .i64 m)] [] (.v 7 (.int .i64 x1) (.br 9 (.fin (some false) [] none) (.fin (some false) [] none))) (out_osmosishand_Pick n m r).1 (out_osmosishand_Pick n m r).2 = (2 = 2 ∧ 2 ≤ 14 ∧ (aInts .rem .i64 n m = some (.int .i64 x1) ∧ (((decide (x1 < 0)) = true → lff (out_osmosishand_Pick n m) (IntKind.i64.wrap (x1 + m)) r) ∧ ((decide (x1 < 0)) = false → lff (out_osmosishand_Pick n m) x1 r)))) := fun C => by kernel_rfl
  refine spec_of (fun _ _ h => by cases h) rfl atab_26 WF26_ok ((e _).mpr ⟨rfl, by decide, ?_⟩)
  unfold osmosishand_Pick at h
  obtain ⟨q1, h⟩ := bget hx1 h
  refine ⟨wP_rem q1, ?_⟩
  refine ⟨fun hb => ?_, fun hb => ?_⟩
  · have h := cond_t hb h
    exact lff_of h
  · have h := cond_f hb h
    exact lff_of h

/- osmosis/osmosishand.Value -/
def osmosishand_Value (n : Int) : Option (List UInt8) :=
  (osmosishand_Pick n 6).bind fun (x1 : Int) => (getI ([([] : List UInt8), [49], [50], [116, 104, 114, 101, 101], [115, 105, 120, 116, 101, 101, 110, 32, 98, 121, 116, 101, 115, 32, 105, 116], [52]] : List (List UInt8)) x1).bind fun (x2 : List UInt8) => some x2
def out_osmosishand_Value (n : Int) (r : List UInt8) : AV × WH := ((.str r), [])

theorem s_osmosishand_Value (d : Nat) {n : Int} {r : List UInt8} (h : osmosishand_Value n = some r) : Spec (wcalls atab (d + 2)) 42 [(.int .i64 n)] [] (out_osmosishand_Value n r).1 (out_osmosishand_Value n r).2 := by
  obtain ⟨x1, hx1⟩ := wx (osmosishand_Pick n 6)
  obtain ⟨x2, hx2⟩ := wx (getI ([([] : List UInt8), [49], [50], [116, 104, 114, 101, 101], [115, 105, 120, 116, 101, 101, 110, 32, 98, 121, 116, 101, 115, 32, 105, 116], [52]] : List (List UInt8)) x1)
  have e : ∀ C : ACalls, wBody C (fun _ => none) KK WF42 [(.int .i64 n)] [] (.cb [] [] (.int .i64 x1) (.v 6 (.str x2) (.fin (some false) [] none))) (out_osmosishand_Value n r).1 (out_osmosishand_Value n r).2 = (1 = 1 ∧ 1 ≤ 7 ∧ (Spec C 26 [(.int .i64 n), (.int .i64 6)] [] (.int .i64 x1) [] ∧ (wP (.index false 6 1 (.c (.agg [(.str ([] : List UInt8)), (.str [49]), (.str [50]), (.str ([116, 104, 114, 101, 101])), (.str ([115, 105, 120, 116, 101, 101, 110, 32, 98, 121, 116, 101, 115, 32, 105, 116])), (.str [52])])) (.c (.int .i64 x1))) = some (.str x2) ∧ lff (out_osmosishand_Value n) x2 r))) := fun C => by kernel_rfl
  refine spec_of (fun _ _ h => by cases h) rfl atab_42 WF42_ok ((e _).mpr ⟨rfl, by decide, ?_⟩)
  unfold osmosishand_Value at h
  obtain ⟨q1, h⟩ := bget hx1 h
  refine ⟨s_osmosishand_Pick (d + 0) q1, ?_⟩
  obtain ⟨q2, h⟩ := bget hx2 h
  refine ⟨wP_ix R_S q2, ?_⟩
  exact lff_of h

/- osmosis/osmosishand.Num -/
abbrev in_osmosishand_Num_J0 (x1 : Int) (n : Int) : Fast × WH := ([(0, (.int .i64 n)), (4, (.int .i64 x1))], [])
def fin_osmosishand_Num_J0 (x1 : Int) (n : Int) : Bool → Ex × Fast × WH := fun e => (.normal, [(0, (.int .i64 n)), (4, (.int .i64 x1)), (5, (.bool e))], [])
def osmosishand_Num_J0 (x1 : Int) (n : Int) : Option (Bool) :=
  cond (x1 == 0) (some true) (cond (x1 == 1) (some true) (some (x1 == 2)))
theorem s_osmosishand_Num_J0 (d : Nat) {x1 : Int} {n : Int} {r : Bool} (h : osmosishand_Num_J0 x1 n = some r) : RunX (bexec (wcalls atab (d + 0)) KK 35 WJ77_babka) 0 (in_osmosishand_Num_J0 x1 n) (fin_osmosishand_Num_J0 x1 n r) := by
  have e : ∀ C : ACalls, wCode C (fun _ => none) KK 35 0 WJ77_babka (in_osmosishand_Num_J0 x1 n).1 (in_osmosishand_Num_J0 x1 n).2 (.br 5 (.en [0, 4, 5] [none, none, none] [] []) (.br 5 (.en [0, 4, 5] [none, none, none] [] []) (.en [0, 4, 5] [none, none, none] [] []))) (fin_osmosishand_Num_J0 x1 n r) = (((x1 == 0) = true → lfe (fin_osmosishand_Num_J0 x1 n) true r) ∧ ((x1 == 0) = false → (((x1 == 1) = true → lfe (fin_osmosishand_Num_J0 x1 n) true r) ∧ ((x1 == 1) = false → lfe (fin_osmosishand_Num_J0 x1 n) (x1 == 2) r)))) := fun C => by kernel_rfl
  refine runS_of (fun _ _ h => by cases h) WJ77_babka_ok (Nat.le_of_ble_eq_true rfl) ((e _).mpr ?_)
  unfold osmosishand_Num_J0 at h
  refine ⟨fun hb => ?_, fun hb => ?_⟩
  · have h := cond_t hb h
    exact lfe_of h
  · have h := cond_f hb h
    refine ⟨fun hb => ?_, fun hb => ?_⟩
    · have h := cond_t hb h
      exact lfe_of h
    · have h := cond_f hb h
      exact lfe_of h

def osmosishand_Num (n : Int) : Option (Int) :=
  (osmosishand_Pick n 7).bind fun (x1 : Int) => (osmosishand_Num_J0 x1 n).bind fun (x2 : Bool) => cond x2 ((osmosishand_Pick (IntKind.i64.wrap (Int.tdiv n 7)) 40).bind fun (x3 : Int) => some x3) (cond (x1 == 3) ((osmosishand_Pick (IntKind.i64.wrap (Int.tdiv n 7)) 63).bind fun (x4 : Int) => (shlI .i64 1 (IntKind.u64.wrap x4)).bind fun (x5 : Int) => (osmosishand_Pick (IntKind.i64.wrap (Int.tdiv n 441)) 3).bind fun (x6 : Int) => some (IntKind.i64.wrap (x5 - x6))) (cond (x1 == 4) ((osmosishand_Pick (IntKind.i64.wrap (Int.tdiv n 7)) 3).bind fun (x7 : Int) => some (IntKind.i64.wrap (4611686018427387903 - x7))) (cond (x1 == 5) ((osmosishand_Pick (IntKind.i64.wrap (Int.tdiv n 7)) 1000).bind fun (x8 : Int) => some x8) (some n))))
def out_osmosishand_Num (n : Int) (r : Int) : AV × WH := ((.int .i64 r), [])

theorem s_osmosishand_Num (d : Nat) {n : Int} {r : Int} (h : osmosishand_Num n = some r) : Spec (wcalls atab (d + 2)) 77 [(.int .i64 n)] [] (out_osmosishand_Num n r).1 (out_osmosishand_Num n r).2 := by
  obtain ⟨x1, hx1⟩ := wx (osmosishand_Pick n 7)
  obtain ⟨x2, hx2⟩ := wx (osmosishand_Num_J0 x1 n)
  obtain ⟨x3, hx3⟩ := wx (osmosishand_Pick (IntKind.i64.wrap (Int.tdiv n 7)) 40)
  obtain ⟨x4, hx4⟩ := wx (osmosishand_Pick (IntKind.i64.wrap (Int.tdiv n 7)) 63)
  obtain ⟨x5, hx5⟩ := wx (shlI .i64 1 (IntKind.u64.wrap x4))
  obtain ⟨x6, hx6⟩ := wx (osmosishand_Pick (IntKind.i64.wrap (Int.tdiv n 441)) 3)
  obtain ⟨x7, hx7⟩ := wx (osmosishand_Pick (IntKind.i64.wrap (Int.tdiv n 7)) 3)
  obtain ⟨x8, hx8⟩ := wx (osmosishand_Pick (IntKind.i64.wrap (Int.tdiv n 7)) 1000)
  have e : ∀ C : ACalls, wBody C (fun _ => none) KK WF77 [(.int .i64 n)] [] (.cb [] [] (.int .i64 x1) (.jn [0, 4] [none, none] [] [] .normal [(0, (.int .i64 n)), (4, (.int .i64 x1)), (5, (.bool x2))] [] (.br 5 (.cb [] [] (.int .i64 x3) (.fin (some false) [] none)) (.br 12 (.cb [] [] (.int .i64 x4) (.v 18 (.int .i64 x5) (.cb [] [] (.int .i64 x6) (.fin (some false) [] none)))) (.br 23 (.cb [] [] (.int .i64 x7) (.fin (some false) [] none)) (.br 29 (.cb [] [] (.int .i64 x8) (.fin (some false) [] none)) (.fin (some false) [] none))))))) (out_osmosishand_Num n r).1 (out_osmosishand_Num n r).2 = (1 = 1 ∧ 1 ≤ 35 ∧ (Spec C 26 [(.int .i64 n), (.int .i64 7)] [] (.int .i64 x1) [] ∧ (RunS (bexec C KK 35 WJ77_babka) 0 [(0, (.int .i64 n)), (4, (.int .i64 x1))] [] .normal [(0, (.int .i64 n)), (4, (.int .i64 x1)), (5, (.bool x2))] [] ∧ ((x2 = true → (Spec C 26 [(.int .i64 (IntKind.i64.wrap (Int.tdiv n 7))), (.int .i64 40)] [] (.int .i64 x3) [] ∧ lff (out_osmosishand_Num n) x3 r)) ∧ (x2 = false → (((x1 == 3) = true → (Spec C 26 [(.int .i64 (IntKind.i64.wrap (Int.tdiv n 7))), (.int .i64 63)] [] (.int .i64 x4) [] ∧ (aBin .shl (.int .i64 1) (.int .u64 (IntKind.u64.wrap x4)) = some (.int .i64 x5) ∧ (Spec C 26 [(.int .i64 (IntKind.i64.wrap (Int.tdiv n 441))), (.int .i64 3)] [] (.int .i64 x6) [] ∧ lff (out_osmosishand_Num n) (IntKind.i64.wrap (x5 - x6)) r)))) ∧ ((x1 == 3) = false → (((x1 == 4) = true → (Spec C 26 [(.int .i64 (IntKind.i64.wrap (Int.tdiv n 7))), (.int .i64 3)] [] (.int .i64 x7) [] ∧ lff (out_osmosishand_Num n) (IntKind.i64.wrap (4611686018427387903 - x7)) r)) ∧ ((x1 == 4) = false → (((x1 == 5) = true → (Spec C 26 [(.int .i64 (IntKind.i64.wrap (Int.tdiv n 7))), (.int .i64 1000)] [] (.int .i64 x8) [] ∧ lff (out_osmosishand_Num n) x8 r)) ∧ ((x1 == 5) = false → lff (out_osmosishand_Num n) n r))))))))))) := fun C => by kernel_rfl
  refine spec_of (fun _ _ h => by cases h) rfl atab_77 WF77_ok ((e _).mpr ⟨rfl, by decide, ?_⟩)
  unfold osmosishand_Num at h
  obtain ⟨q1, h⟩ := bget hx1 h
  refine ⟨s_osmosishand_Pick (d + 0) q1, ?_⟩
  obtain ⟨q2, h⟩ := bget hx2 h
  refine ⟨s_osmosishand_Num_J0 (d + 1) q2, ?_⟩
  refine ⟨fun hb => ?_, fun hb => ?_⟩
  · have h := cond_t hb h
    obtain ⟨q3, h⟩ := bget hx3 h
    refine ⟨s_osmosishand_Pick (d + 0) q3, ?_⟩
    exact lff_of h
  · have h := cond_f hb h
    refine ⟨fun hb => ?_, fun hb => ?_⟩
    · have h := cond_t hb h
      obtain ⟨q4, h⟩ := bget hx4 h
      refine ⟨s_osmosishand_Pick (d + 0) q4, ?_⟩
      obtain ⟨q5, h⟩ := bget hx5 h
      refine ⟨wP_shl q5, ?_⟩
      obtain ⟨q6, h⟩ := bget hx6 h
      refine ⟨s_osmosishand_Pick (d + 0) q6, ?_⟩
      exact lff_of h
    · have h := cond_f hb h
      refine ⟨fun hb => ?_, fun hb => ?_⟩
      · have h := cond_t hb h
        obtain ⟨q7, h⟩ := bget hx7 h
        refine ⟨s_osmosishand_Pick (d + 0) q7, ?_⟩
        exact lff_of h
      · have h := cond_f hb h
        refine ⟨fun hb => ?_, fun hb => ?_⟩
        · have h := cond_t hb h
          obtain ⟨q8, h⟩ := bget hx8 h
          refine ⟨s_osmosishand_Pick (d + 0) q8, ?_⟩
          exact lff_of h
        · have h := cond_f hb h
          exact lff_of h

/- osmosis/osmosislaw7.sess -/
def osmosislaw7_sess (p_x : osmosislaw7_Raw) : Option (api_Sess) :=
  (osmosishand_Pick p_x.Client 7).bind fun (x1 : Int) => (osmosishand_Pick p_x.Seq 12).bind fun (x2 : Int) => (osmosishand_Pick p_x.Why 7).bind fun (x3 : Int) => (osmosishand_Value p_x.Value).bind fun (x4 : List UInt8) => (osmosishand_Pick p_x.Seq 13).bind fun (x5 : Int) => cond (x5 == 12) ((osmosishand_Num (IntKind.i64.wrap (Int.tdiv p_x.Seq 13))).bind fun (x6 : Int) => some (⟨(IntKind.i64.wrap (x1 - 1)), x6, (⟨x3, x4⟩ : api_Answer)⟩ : api_Sess)) (some (⟨(IntKind.i64.wrap (x1 - 1)), (IntKind.i64.wrap (x2 - 1)), (⟨x3, x4⟩ : api_Answer)⟩ : api_Sess))
def out_osmosislaw7_sess (p_x : osmosislaw7_Raw) (r : api_Sess) : AV × WH := ((.agg (e_api_Sess r)), [])

theorem s_osmosislaw7_sess (d : Nat) {p_x : osmosislaw7_Raw} {r : api_Sess} (h : osmosislaw7_sess p_x = some r) : Spec (wcalls atab (d + 3)) 38 [(.agg (e_osmosislaw7_Raw p_x))] [] (out_osmosislaw7_sess p_x r).1 (out_osmosislaw7_sess p_x r).2 := by
  obtain ⟨x1, hx1⟩ := wx (osmosishand_Pick p_x.Client 7)
  obtain ⟨x2, hx2⟩ := wx (osmosishand_Pick p_x.Seq 12)
  obtain ⟨x3, hx3⟩ := wx (osmosishand_Pick p_x.Why 7)
  obtain ⟨x4, hx4⟩ := wx (osmosishand_Value p_x.Value)
  obtain ⟨x5, hx5⟩ := wx (osmosishand_Pick p_x.Seq 13)
  obtain ⟨x6, hx6⟩ := wx (osmosishand_Num (IntKind.i64.wrap (Int.tdiv p_x.Seq 13)))
  have e : ∀ C : ACalls, wBody C (fun _ => none) KK WF38 [(.agg (e_osmosislaw7_Raw p_x))] [] (.cb [] [] (.int .i64 x1) (.cb [] [] (.int .i64 x2) (.cb [] [] (.int .i64 x3) (.cb [] [] (.str x4) (.st none (.cb [] [] (.int .i64 x5) (.br 23 (.cb [] [] (.int .i64 x6) (.st none (.st none (.fin (some false) [] none)))) (.st none (.fin (some false) [] none))))))))) (out_osmosislaw7_sess p_x r).1 (out_osmosislaw7_sess p_x r).2 = (1 = 1 ∧ 1 ≤ 30 ∧ (Spec C 26 [(.int .i64 p_x.Client), (.int .i64 7)] [] (.int .i64 x1) [] ∧ (Spec C 26 [(.int .i64 p_x.Seq), (.int .i64 12)] [] (.int .i64 x2) [] ∧ (Spec C 26 [(.int .i64 p_x.Why), (.int .i64 7)] [] (.int .i64 x3) [] ∧ (Spec C 42 [(.int .i64 p_x.Value)] [] (.str x4) [] ∧ (Spec C 26 [(.int .i64 p_x.Seq), (.int .i64 13)] [] (.int .i64 x5) [] ∧ (((x5 == 12) = true → (Spec C 77 [(.int .i64 (IntKind.i64.wrap (Int.tdiv p_x.Seq 13)))] [] (.int .i64 x6) [] ∧ (@Eq AV (.agg (e_api_Sess (⟨(IntKind.i64.wrap (x1 - 1)), x6, (⟨x3, x4⟩ : api_Answer)⟩ : api_Sess))) (out_osmosislaw7_sess p_x r).1 ∧ @Eq WH [] (out_osmosislaw7_sess p_x r).2))) ∧ ((x5 == 12) = false → (@Eq AV (.agg (e_api_Sess (⟨(IntKind.i64.wrap (x1 - 1)), (IntKind.i64.wrap (x2 - 1)), (⟨x3, x4⟩ : api_Answer)⟩ : api_Sess))) (out_osmosislaw7_sess p_x r).1 ∧ @Eq WH [] (out_osmosislaw7_sess p_x r).2))))))))) := fun C => by kernel_rfl
  refine spec_of (fun _ _ h => by cases h) rfl atab_38 WF38_ok ((e _).mpr ⟨rfl, by decide, ?_⟩)
  unfold osmosislaw7_sess at h
  obtain ⟨q1, h⟩ := bget hx1 h
  refine ⟨s_osmosishand_Pick (d + 1) q1, ?_⟩
  obtain ⟨q2, h⟩ := bget hx2 h
  refine ⟨s_osmosishand_Pick (d + 1) q2, ?_⟩
  obtain ⟨q3, h⟩ := bget hx3 h
  refine ⟨s_osmosishand_Pick (d + 1) q3, ?_⟩
  obtain ⟨q4, h⟩ := bget hx4 h
  refine ⟨s_osmosishand_Value (d + 0) q4, ?_⟩
  obtain ⟨q5, h⟩ := bget hx5 h
  refine ⟨s_osmosishand_Pick (d + 1) q5, ?_⟩
  refine ⟨fun hb => ?_, fun hb => ?_⟩
  · have h := cond_t hb h
    obtain ⟨q6, h⟩ := bget hx6 h
    refine ⟨s_osmosishand_Num (d + 0) q6, ?_⟩
    obtain rfl := Option.some.inj h
    refine ⟨?_, ?_⟩ <;> first | rfl | (simp only [out_osmosislaw7_sess, List.length_set, List.length_append, List.length_replicate, List.length_cons, List.length_nil, List.length_take, List.length_drop, Nat.add_zero, Nat.zero_add]; done) | simp [out_osmosislaw7_sess]
  · have h := cond_f hb h
    obtain rfl := Option.some.inj h
    refine ⟨?_, ?_⟩ <;> first | rfl | (simp only [out_osmosislaw7_sess, List.length_set, List.length_append, List.length_replicate, List.length_cons, List.length_nil, List.length_take, List.length_drop, Nat.add_zero, Nat.zero_add]; done) | simp [out_osmosislaw7_sess]

/- (*osmosis/session.Sessions).Note -/
abbrev in_session_Sessions_Note_J0 (p_x : api_Sess) (p_s : session_Sessions) : Fast × WH := ([(0, (.ptr (some (0, 0)))), (3, (.ptr (some (1, 0))))], [(some (.cells (e_session_Sessions p_s) false false)), (some (.cells (e_api_Sess p_x) false false))])
def fin_session_Sessions_Note_J0 (p_x : api_Sess) (p_s : session_Sessions) : Unit ⊕ Unit → Ex × Fast × WH := fun
  | .inl e => (.ret, [(4, (.bool false))], [(some (.cells (e_session_Sessions p_s) false false))])
  | .inr e => (.normal, [(0, (.ptr (some (0, 0)))), (3, (.ptr (some (1, 0))))], [(some (.cells (e_session_Sessions p_s) false false)), (some (.cells (e_api_Sess p_x) false false))])
def session_Sessions_Note_J0 (p_x : api_Sess) (p_s : session_Sessions) : Option (Unit ⊕ Unit) :=
  cond (decide (p_x.Client < 0)) (some (.inl ())) (cond (decide (p_x.Client ≥ 4)) (some (.inl ())) (cond (decide (p_x.Seq < 1)) (some (.inl ())) ((getI (p_s.l.toL) p_x.Client).bind fun (x1 : api_Sess) => cond (decide (p_x.Seq ≤ x1.Seq)) (some (.inl ())) (some (.inr ())))))
theorem s_session_Sessions_Note_J0 (d : Nat) {p_x : api_Sess} {p_s : session_Sessions} {r : Unit ⊕ Unit} (h : session_Sessions_Note_J0 p_x p_s = some r) : RunX (bexec (wcalls atab (d + 0)) KK 38 WJ39_ba) 1 (in_session_Sessions_Note_J0 p_x p_s) (fin_session_Sessions_Note_J0 p_x p_s r) := by
  obtain ⟨x1, hx1⟩ := wx (getI (p_s.l.toL) p_x.Client)
  have e : ∀ C : ACalls, wCode C (fun _ => none) KK 38 1 WJ39_ba (in_session_Sessions_Note_J0 p_x p_s).1 (in_session_Sessions_Note_J0 p_x p_s).2 (.br 8 (.en [4] [none] [] []) (.br 13 (.en [4] [none] [] []) (.br 18 (.en [4] [none] [] []) (.v 26 (.ptr (some (0, 0 + p_x.Client.toNat * 4))) (.v 28 (.int .i64 x1.Seq) (.br 30 (.en [4] [none] [] []) (.en [0, 3] [none, none] [] []))))))) (fin_session_Sessions_Note_J0 p_x p_s r) = (((decide (p_x.Client < 0)) = true → lfe (fin_session_Sessions_Note_J0 p_x p_s) (.inl ()) r) ∧ ((decide (p_x.Client < 0)) = false → (((decide (p_x.Client ≥ 4)) = true → lfe (fin_session_Sessions_Note_J0 p_x p_s) (.inl ()) r) ∧ ((decide (p_x.Client ≥ 4)) = false → (((decide (p_x.Seq < 1)) = true → lfe (fin_session_Sessions_Note_J0 p_x p_s) (.inl ()) r) ∧ ((decide (p_x.Seq < 1)) = false → (wP (.idxArr 4 4 (.c (.ptr (some (0, 0)))) (.c (.int .i64 p_x.Client))) = some (.ptr (some (0, 0 + p_x.Client.toNat * 4))) ∧ (cPart false (0 + p_x.Client.toNat * 4 + 1) 1 (e_session_Sessions p_s) = some (.int .i64 x1.Seq) ∧ (((decide (p_x.Seq ≤ x1.Seq)) = true → lfe (fin_session_Sessions_Note_J0 p_x p_s) (.inl ()) r) ∧ ((decide (p_x.Seq ≤ x1.Seq)) = false → lfe (fin_session_Sessions_Note_J0 p_x p_s) (.inr ()) r)))))))))) := fun C => by kernel_rfl
  refine runS_of (fun _ _ h => by cases h) WJ39_ba_ok (Nat.le_of_ble_eq_true rfl) ((e _).mpr ?_)
  unfold session_Sessions_Note_J0 at h
  refine ⟨fun hb => ?_, fun hb => ?_⟩
  · have h := cond_t hb h
    exact lfe_of h
  · have h := cond_f hb h
    refine ⟨fun hb => ?_, fun hb => ?_⟩
    · have h := cond_t hb h
      exact lfe_of h
    · have h := cond_f hb h
      refine ⟨fun hb => ?_, fun hb => ?_⟩
      · have h := cond_t hb h
        exact lfe_of h
      · have h := cond_f hb h
        obtain ⟨q1, h⟩ := bget hx1 h
        refine ⟨wP_arr q1 rfl, ?_⟩
        refine ⟨cP_arr (p := 0) (o := 1) R_api_Sess q1 rfl rfl, ?_⟩
        refine ⟨fun hb => ?_, fun hb => ?_⟩
        · have h := cond_t hb h
          exact lfe_of h
        · have h := cond_f hb h
          exact lfe_of h

def session_Sessions_Note (p_x : api_Sess) (p_s : session_Sessions) : Option (Bool × session_Sessions) :=
  (session_Sessions_Note_J0 p_x p_s).bind fun (x2 : Unit ⊕ Unit) => cond (isL x2) (some (false, p_s)) ((getI (p_s.l.toL) p_x.Client).bind fun (x4 : api_Sess) => some (true, (⟨(⟨(⟨((p_s.l.set p_x.Client p_x).a0).Client, ((p_s.l.set p_x.Client p_x).a0).Seq, (((p_s.l.set p_x.Client p_x).a0).Answer)⟩ : api_Sess), (⟨((p_s.l.set p_x.Client p_x).a1).Client, ((p_s.l.set p_x.Client p_x).a1).Seq, (((p_s.l.set p_x.Client p_x).a1).Answer)⟩ : api_Sess), (⟨((p_s.l.set p_x.Client p_x).a2).Client, ((p_s.l.set p_x.Client p_x).a2).Seq, (((p_s.l.set p_x.Client p_x).a2).Answer)⟩ : api_Sess), (⟨((p_s.l.set p_x.Client p_x).a3).Client, ((p_s.l.set p_x.Client p_x).a3).Seq, (((p_s.l.set p_x.Client p_x).a3).Answer)⟩ : api_Sess)⟩ : A4 api_Sess)⟩ : session_Sessions)))
def out_session_Sessions_Note (p_x : api_Sess) (p_s : session_Sessions) (r : Bool × session_Sessions) : AV × WH := ((.bool r.1), [(some (.cells (e_session_Sessions r.2) false false))])

theorem s_session_Sessions_Note (d : Nat) {p_x : api_Sess} {p_s : session_Sessions} {r : Bool × session_Sessions} (h : session_Sessions_Note p_x p_s = some r) : Spec (wcalls atab (d + 1)) 39 [(.ptr (some (0, 0))), (.agg (e_api_Sess p_x))] [(some (.cells (e_session_Sessions p_s) false false))] (out_session_Sessions_Note p_x p_s r).1 (out_session_Sessions_Note p_x p_s r).2 := by
  obtain ⟨x2, hx2⟩ := wx (session_Sessions_Note_J0 p_x p_s)
  obtain ⟨x4, hx4⟩ := wx (getI (p_s.l.toL) p_x.Client)
  have e : ∀ C : ACalls, wBody C (fun _ => none) KK WF39 [(.ptr (some (0, 0))), (.agg (e_api_Sess p_x))] [(some (.cells (e_session_Sessions p_s) false false))] (.sk (.ite (isL x2) (.jn [0, 3] [none, none] [] [] .ret [(4, (.bool false))] [(some (.cells (e_session_Sessions p_s) false false))] (.fin (some false) [] none)) (.jn [0, 3] [none, none] [] [] .normal [(0, (.ptr (some (0, 0)))), (3, (.ptr (some (1, 0))))] [(some (.cells (e_session_Sessions p_s) false false)), (some (.cells (e_api_Sess p_x) false false))] (.v 37 (.ptr (some (0, 0 + p_x.Client.toNat * 4))) (.st (some (e_session_Sessions (⟨(⟨(⟨((p_s.l.set p_x.Client p_x).a0).Client, ((p_s.l.set p_x.Client p_x).a0).Seq, (((p_s.l.set p_x.Client p_x).a0).Answer)⟩ : api_Sess), (⟨((p_s.l.set p_x.Client p_x).a1).Client, ((p_s.l.set p_x.Client p_x).a1).Seq, (((p_s.l.set p_x.Client p_x).a1).Answer)⟩ : api_Sess), (⟨((p_s.l.set p_x.Client p_x).a2).Client, ((p_s.l.set p_x.Client p_x).a2).Seq, (((p_s.l.set p_x.Client p_x).a2).Answer)⟩ : api_Sess), (⟨((p_s.l.set p_x.Client p_x).a3).Client, ((p_s.l.set p_x.Client p_x).a3).Seq, (((p_s.l.set p_x.Client p_x).a3).Answer)⟩ : api_Sess)⟩ : A4 api_Sess)⟩ : session_Sessions))) (.fin (some false) [] none)))))) (out_session_Sessions_Note p_x p_s r).1 (out_session_Sessions_Note p_x p_s r).2 = (2 = 2 ∧ 2 ≤ 38 ∧ (((isL x2) = true → (RunS (bexec C KK 38 WJ39_ba) 1 [(0, (.ptr (some (0, 0)))), (3, (.ptr (some (1, 0))))] [(some (.cells (e_session_Sessions p_s) false false)), (some (.cells (e_api_Sess p_x) false false))] .ret [(4, (.bool false))] [(some (.cells (e_session_Sessions p_s) false false))] ∧ lff (out_session_Sessions_Note p_x p_s) (false, p_s) r)) ∧ ((isL x2) = false → (RunS (bexec C KK 38 WJ39_ba) 1 [(0, (.ptr (some (0, 0)))), (3, (.ptr (some (1, 0))))] [(some (.cells (e_session_Sessions p_s) false false)), (some (.cells (e_api_Sess p_x) false false))] .normal [(0, (.ptr (some (0, 0)))), (3, (.ptr (some (1, 0))))] [(some (.cells (e_session_Sessions p_s) false false)), (some (.cells (e_api_Sess p_x) false false))] ∧ (wP (.idxArr 4 4 (.c (.ptr (some (0, 0)))) (.c (.int .i64 p_x.Client))) = some (.ptr (some (0, 0 + p_x.Client.toNat * 4))) ∧ (wrC (e_session_Sessions p_s) (0 + p_x.Client.toNat * 4) [(.int .i64 p_x.Client), (.int .i64 p_x.Seq), (.int .i64 p_x.Answer.Why), (.str p_x.Answer.Value)] = some (e_session_Sessions (⟨(⟨(⟨((p_s.l.set p_x.Client p_x).a0).Client, ((p_s.l.set p_x.Client p_x).a0).Seq, (((p_s.l.set p_x.Client p_x).a0).Answer)⟩ : api_Sess), (⟨((p_s.l.set p_x.Client p_x).a1).Client, ((p_s.l.set p_x.Client p_x).a1).Seq, (((p_s.l.set p_x.Client p_x).a1).Answer)⟩ : api_Sess), (⟨((p_s.l.set p_x.Client p_x).a2).Client, ((p_s.l.set p_x.Client p_x).a2).Seq, (((p_s.l.set p_x.Client p_x).a2).Answer)⟩ : api_Sess), (⟨((p_s.l.set p_x.Client p_x).a3).Client, ((p_s.l.set p_x.Client p_x).a3).Seq, (((p_s.l.set p_x.Client p_x).a3).Answer)⟩ : api_Sess)⟩ : A4 api_Sess)⟩ : session_Sessions)) ∧ (@Eq AV (.bool true) (out_session_Sessions_Note p_x p_s r).1 ∧ @Eq WH [(some (.cells (e_session_Sessions (⟨(⟨(⟨((p_s.l.set p_x.Client p_x).a0).Client, ((p_s.l.set p_x.Client p_x).a0).Seq, (((p_s.l.set p_x.Client p_x).a0).Answer)⟩ : api_Sess), (⟨((p_s.l.set p_x.Client p_x).a1).Client, ((p_s.l.set p_x.Client p_x).a1).Seq, (((p_s.l.set p_x.Client p_x).a1).Answer)⟩ : api_Sess), (⟨((p_s.l.set p_x.Client p_x).a2).Client, ((p_s.l.set p_x.Client p_x).a2).Seq, (((p_s.l.set p_x.Client p_x).a2).Answer)⟩ : api_Sess), (⟨((p_s.l.set p_x.Client p_x).a3).Client, ((p_s.l.set p_x.Client p_x).a3).Seq, (((p_s.l.set p_x.Client p_x).a3).Answer)⟩ : api_Sess)⟩ : A4 api_Sess)⟩ : session_Sessions)) false false))] (out_session_Sessions_Note p_x p_s r).2))))))) := fun C => by kernel_rfl
  refine spec_of (fun _ _ h => by cases h) rfl atab_39 WF39_ok ((e _).mpr ⟨rfl, by decide, ?_⟩)
  unfold session_Sessions_Note at h
  obtain ⟨q2, h⟩ := bget hx2 h
  refine ⟨fun hb3 => ?_, fun hb3 => ?_⟩
  · have h := cond_t hb3 h
    refine ⟨by have h := s_session_Sessions_Note_J0 (d + 0) q2; rw [isL_t hb3] at h; exact h, ?_⟩
    exact lff_of h
  · have h := cond_f hb3 h
    refine ⟨by have h := s_session_Sessions_Note_J0 (d + 0) q2; rw [isL_f hb3] at h; exact h, ?_⟩
    obtain ⟨q4, h⟩ := bget hx4 h
    refine ⟨wP_arr q4 rfl, ?_⟩
    refine ⟨wr_arr (p := 0) (o := 0) R_api_Sess q4 (A4.toL_set _ q4) rfl (Nat.le_of_ble_eq_true rfl) rfl rfl, ?_⟩
    obtain rfl := Option.some.inj h
    refine ⟨?_, ?_⟩ <;> first | rfl | (simp only [out_session_Sessions_Note, List.length_set, List.length_append, List.length_replicate, List.length_cons, List.length_nil, List.length_take, List.length_drop, Nat.add_zero, Nat.zero_add]; done) | simp [out_session_Sessions_Note]

end Go.Proofs.Yteibgagdnidojaa
