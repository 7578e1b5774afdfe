/- Functions as Lean functions, part 3. -/
import Derived.Test.YteibgagdnidojaaXt
import Derived.Test.YteibgagdnidojaaXs
import Derived.Test.YteibgagdnidojaaY2
set_option linter.all false
set_option maxRecDepth 100000
namespace Go.Proofs.Yteibgagdnidojaa
/- (*osmosis/session.Sessions).All -/
def st_session_Sessions_All_L0 (p_s : session_Sessions) (s5 : Int × List api_Sess) : List AV × WH := ([(.acc 1 0 4 s5.2.length true), (.agg (e_session_Sessions p_s)), (.int .i64 s5.1)], [(some (.cells (e_session_Sessions p_s) false false)), (some (.cells (F_api_Sess s5.2) false true))])
def fin_session_Sessions_All_L0 (p_s : session_Sessions) : (List api_Sess) → Ex × Fast × WH := fun e => ((.exit 0), [(3, (.acc 1 0 4 e.length true))], [(some (.cells (e_session_Sessions p_s) false false)), (some (.cells (F_api_Sess e) false true))])
abbrev rx_session_Sessions_All_L0 (p_s : session_Sessions) := roundX [3, 9, 10] (st_session_Sessions_All_L0 p_s) (fin_session_Sessions_All_L0 p_s)
def session_Sessions_All_L0_s (p_s : session_Sessions) (s5 : Int × List api_Sess) : Option ((Int × List api_Sess) ⊕ ((List api_Sess))) :=
  cond (decide (s5.1 < 4)) ((getI ([p_s.l.a0, p_s.l.a1, p_s.l.a2, p_s.l.a3] : List api_Sess) s5.1).bind fun (x6 : api_Sess) => cond (decide (x6.Seq > 0)) (gd (fitsB 40 (s5.2 ++ [x6]).length) (some (.inl ((IntKind.i64.wrap (s5.1 + 1)), (s5.2 ++ [x6]))))) (some (.inl ((IntKind.i64.wrap (s5.1 + 1)), s5.2)))) (some (.inr s5.2))
def session_Sessions_All_L0 (p_s : session_Sessions) (s5 : Int × List api_Sess) : Option ((List api_Sess)) := loopX (session_Sessions_All_L0_s p_s) KK s5
theorem b_session_Sessions_All_L0 (d : Nat) {p_s : session_Sessions} {s5 : Int × List api_Sess} {r : (Int × List api_Sess) ⊕ ((List api_Sess))} (h : session_Sessions_All_L0_s p_s s5 = some r) : RunX (bexec (wcalls atab (d + 0)) KK 23 WB40_0) 1 (inL [3, 9, 10] (st_session_Sessions_All_L0 p_s s5)) (rx_session_Sessions_All_L0 p_s r) := by
  obtain ⟨x6, hx6⟩ := wx (getI ([p_s.l.a0, p_s.l.a1, p_s.l.a2, p_s.l.a3] : List api_Sess) s5.1)
  have e : ∀ C : ACalls, wCode C (fun _ => none) KK 23 1 WB40_0 (inL [3, 9, 10] (st_session_Sessions_All_L0 p_s s5)).1 (inL [3, 9, 10] (st_session_Sessions_All_L0 p_s s5)).2 (.br 11 (.v 12 (.agg (e_api_Sess x6)) (.st none (.br 15 (.ap 19 (s5.2 ++ [x6]).length (F_api_Sess (s5.2 ++ [x6])) (.en [3, 9, 10] [none, none, none] [] [.slice none 4 0 0 true, .undef, .undef])) (.en [3, 9, 10] [none, none, none] [] [.slice none 4 0 0 true, .undef, .undef])))) (.en [3] [none] [] [.slice none 4 0 0 true])) (rx_session_Sessions_All_L0 p_s r) = (((decide (s5.1 < 4)) = true → (wP (.index true 4 4 (.c (.agg (F_api_Sess ([p_s.l.a0, p_s.l.a1, p_s.l.a2, p_s.l.a3])))) (.c (.int .i64 s5.1))) = some (.agg (e_api_Sess x6)) ∧ (((decide (x6.Seq > 0)) = true → (s5.2.length + 1 = (s5.2 ++ [x6]).length ∧ (F_api_Sess s5.2 ++ F_api_Sess [x6] = F_api_Sess (s5.2 ++ [x6]) ∧ (fitsB 40 (s5.2 ++ [x6]).length = true ∧ lfe (rx_session_Sessions_All_L0 p_s) (.inl ((IntKind.i64.wrap (s5.1 + 1)), (s5.2 ++ [x6]))) r)))) ∧ ((decide (x6.Seq > 0)) = false → lfe (rx_session_Sessions_All_L0 p_s) (.inl ((IntKind.i64.wrap (s5.1 + 1)), s5.2)) r)))) ∧ ((decide (s5.1 < 4)) = false → lfe (rx_session_Sessions_All_L0 p_s) (.inr s5.2) r)) := fun C => by kernel_rfl
  refine runS_of (fun _ _ h => by cases h) WB40_0_ok (Nat.le_of_ble_eq_true rfl) ((e _).mpr ?_)
  unfold session_Sessions_All_L0_s at h
  refine ⟨fun hb => ?_, fun hb => ?_⟩
  · have h := cond_t hb h
    obtain ⟨q6, h⟩ := bget hx6 h
    refine ⟨wP_ixA R_api_Sess q6, ?_⟩
    refine ⟨fun hb => ?_, fun hb => ?_⟩
    · have h := cond_t hb h
      obtain ⟨q7, h⟩ := gd_some h
      refine ⟨by simp, ?_⟩
      refine ⟨(Row.app R_api_Sess _ _).symm, ?_⟩
      refine ⟨q7, ?_⟩
      exact lfe_of h
    · have h := cond_f hb h
      exact lfe_of h
  · have h := cond_f hb h
    exact lfe_of h
theorem s_session_Sessions_All_L0 (d : Nat) {p_s : session_Sessions} {s5 : Int × List api_Sess} {r : (List api_Sess)} (h : session_Sessions_All_L0 p_s s5 = some r) : RunX (bloop (bexec (wcalls atab (d + 0)) KK 23 WB40_0) [3, 9, 10] KK) 1 (inL [3, 9, 10] (st_session_Sessions_All_L0 p_s s5)) (fin_session_Sessions_All_L0 p_s r) :=
  loop_of (st := st_session_Sessions_All_L0 p_s) (fin := fin_session_Sessions_All_L0 p_s) (step := session_Sessions_All_L0_s p_s) (fun e => by (intro h; cases h)) (fun s x h => b_session_Sessions_All_L0 d h) KK s5 r h

def session_Sessions_All (p_s : session_Sessions) : Option (List api_Sess) :=
  (session_Sessions_All_L0 p_s (0, [])).bind fun (x8 : (List api_Sess)) => some x8
def out_session_Sessions_All (p_s : session_Sessions) (r : List api_Sess) : AV × WH := ((l_api_Sess r), [(some (.cells (e_session_Sessions p_s) false false))])

theorem s_session_Sessions_All (d : Nat) {p_s : session_Sessions} {r : List api_Sess} (h : session_Sessions_All p_s = some r) : Spec (wcalls atab (d + 2)) 40 [(.ptr (some (0, 0)))] [(some (.cells (e_session_Sessions p_s) false false))] (out_session_Sessions_All p_s r).1 (out_session_Sessions_All p_s r).2 := by
  obtain ⟨x8, hx8⟩ := wx (session_Sessions_All_L0 p_s (0, []))
  have e : ∀ C : ACalls, wBody C wB KK WF40 [(.ptr (some (0, 0)))] [(some (.cells (e_session_Sessions p_s) false false))] (.z 2 [.slice none 4 0 0 true] (.z 3 [.slice none 4 0 0 true] (.lp [(some true), none, none] [] [.slice none 4 0 0 true, .undef, .undef] (.exit 0) [(3, (.acc 1 0 4 x8.length true))] [(some (.cells (e_session_Sessions p_s) false false)), (some (.cells (F_api_Sess x8) false true))] (.fin (some false) [.slice none 4 0 0 true] none)))) (out_session_Sessions_All p_s r).1 (out_session_Sessions_All p_s r).2 = (1 = 1 ∧ 1 ≤ 23 ∧ (RunS (bloop (bexec C KK 23 WB40_0) [3, 9, 10] KK) 1 [(3, (.acc 1 0 4 0 true)), (9, (.agg (e_session_Sessions p_s))), (10, (.int .i64 0))] [(some (.cells (e_session_Sessions p_s) false false)), (some (.cells (F_api_Sess []) false true))] (.exit 0) [(3, (.acc 1 0 4 x8.length true))] [(some (.cells (e_session_Sessions p_s) false false)), (some (.cells (F_api_Sess x8) false true))] ∧ lff (out_session_Sessions_All p_s) x8 r)) := fun C => by kernel_rfl
  refine spec_of (wB_ok _) rfl atab_40 WF40_ok ((e _).mpr ⟨rfl, by decide, ?_⟩)
  unfold session_Sessions_All at h
  obtain ⟨q8, h⟩ := bget hx8 h
  refine ⟨s_session_Sessions_All_L0 (d + 1) q8, ?_⟩
  exact lff_of h

/- osmosis/osmosislaw7.known -/
def osmosislaw7_known  : Option (Bool) :=
  (session_Sessions_Note (⟨1, 3, (⟨0, ([] : List UInt8)⟩ : api_Answer)⟩ : api_Sess) (⟨(⟨(⟨0, 0, (⟨0, ([] : List UInt8)⟩ : api_Answer)⟩ : api_Sess), (⟨0, 0, (⟨0, ([] : List UInt8)⟩ : api_Answer)⟩ : api_Sess), (⟨0, 0, (⟨0, ([] : List UInt8)⟩ : api_Answer)⟩ : api_Sess), (⟨0, 0, (⟨0, ([] : List UInt8)⟩ : api_Answer)⟩ : api_Sess)⟩ : A4 api_Sess)⟩ : session_Sessions)).bind fun (x1 : Bool × session_Sessions) => (session_Sessions_Note (⟨1, 3, (⟨0, ([] : List UInt8)⟩ : api_Answer)⟩ : api_Sess) x1.2).bind fun (x2 : Bool × session_Sessions) => cond x1.1 (cond (!x2.1) ((session_Sessions_All x2.2).bind fun (x3 : List api_Sess) => some ((x3.length : Int) == 1)) (some false)) (some false)
def out_osmosislaw7_known (r : Bool) : AV × WH := ((.bool r), [])

theorem s_osmosislaw7_known (d : Nat)  {r : Bool} (h : osmosislaw7_known = some r) : Spec (wcalls atab (d + 3)) 41 [] [] (out_osmosislaw7_known r).1 (out_osmosislaw7_known r).2 := by
  obtain ⟨x1, hx1⟩ := wx (session_Sessions_Note (⟨1, 3, (⟨0, ([] : List UInt8)⟩ : api_Answer)⟩ : api_Sess) (⟨(⟨(⟨0, 0, (⟨0, ([] : List UInt8)⟩ : api_Answer)⟩ : api_Sess), (⟨0, 0, (⟨0, ([] : List UInt8)⟩ : api_Answer)⟩ : api_Sess), (⟨0, 0, (⟨0, ([] : List UInt8)⟩ : api_Answer)⟩ : api_Sess), (⟨0, 0, (⟨0, ([] : List UInt8)⟩ : api_Answer)⟩ : api_Sess)⟩ : A4 api_Sess)⟩ : session_Sessions))
  obtain ⟨x2, hx2⟩ := wx (session_Sessions_Note (⟨1, 3, (⟨0, ([] : List UInt8)⟩ : api_Answer)⟩ : api_Sess) x1.2)
  obtain ⟨x3, hx3⟩ := wx (session_Sessions_All x2.2)
  have e : ∀ C : ACalls, wBody C (fun _ => none) KK WF41 [] [] (.st none (.st none (.call [] (some false) [] (.bool x1.1) [(some (.cells (e_session_Sessions x1.2) false false))] (.call [] (some false) [] (.bool x2.1) [(some (.cells (e_session_Sessions x2.2) false false))] (.br 12 (.br 16 (.call [] (some false) [] (l_api_Sess x3) [(some (.cells (e_session_Sessions x2.2) false false))] (.fin (some false) [] none)) (.fin (some false) [] none)) (.fin (some false) [] none)))))) (out_osmosislaw7_known r).1 (out_osmosislaw7_known r).2 = (0 = 0 ∧ 0 ≤ 21 ∧ (Spec C 39 [(.ptr (some (0, 0))), (.agg (e_api_Sess (⟨1, 3, (⟨0, ([] : List UInt8)⟩ : api_Answer)⟩ : api_Sess)))] [(some (.cells (e_session_Sessions (⟨(⟨(⟨0, 0, (⟨0, ([] : List UInt8)⟩ : api_Answer)⟩ : api_Sess), (⟨0, 0, (⟨0, ([] : List UInt8)⟩ : api_Answer)⟩ : api_Sess), (⟨0, 0, (⟨0, ([] : List UInt8)⟩ : api_Answer)⟩ : api_Sess), (⟨0, 0, (⟨0, ([] : List UInt8)⟩ : api_Answer)⟩ : api_Sess)⟩ : A4 api_Sess)⟩ : session_Sessions)) false false))] (.bool x1.1) [(some (.cells (e_session_Sessions x1.2) false false))] ∧ (1 ≤ 1 ∧ (Spec C 39 [(.ptr (some (0, 0))), (.agg (e_api_Sess (⟨1, 3, (⟨0, ([] : List UInt8)⟩ : api_Answer)⟩ : api_Sess)))] [(some (.cells (e_session_Sessions x1.2) false false))] (.bool x2.1) [(some (.cells (e_session_Sessions x2.2) false false))] ∧ (1 ≤ 1 ∧ ((x1.1 = true → (((!x2.1) = true → (Spec C 40 [(.ptr (some (0, 0)))] [(some (.cells (e_session_Sessions x2.2) false false))] (l_api_Sess x3) [(some (.cells (e_session_Sessions x2.2) false false))] ∧ (1 ≤ 1 ∧ lff out_osmosislaw7_known ((x3.length : Int) == 1) r))) ∧ ((!x2.1) = false → lff out_osmosislaw7_known false r))) ∧ (x1.1 = false → lff out_osmosislaw7_known false r))))))) := fun C => by kernel_rfl
  refine spec_of (fun _ _ h => by cases h) rfl atab_41 WF41_ok ((e _).mpr ⟨rfl, by decide, ?_⟩)
  unfold osmosislaw7_known at h
  obtain ⟨q1, h⟩ := bget hx1 h
  refine ⟨s_session_Sessions_Note (d + 1) q1, ?_⟩
  refine ⟨by decide, ?_⟩
  obtain ⟨q2, h⟩ := bget hx2 h
  refine ⟨s_session_Sessions_Note (d + 1) q2, ?_⟩
  refine ⟨by decide, ?_⟩
  refine ⟨fun hb => ?_, fun hb => ?_⟩
  · have h := cond_t hb h
    refine ⟨fun hb => ?_, fun hb => ?_⟩
    · have h := cond_t hb h
      obtain ⟨q3, h⟩ := bget hx3 h
      refine ⟨s_session_Sessions_All (d + 0) q3, ?_⟩
      refine ⟨by decide, ?_⟩
      exact lff_of h
    · have h := cond_f hb h
      exact lff_of h
  · have h := cond_f hb h
    exact lff_of h

/- osmosis/osmosislaw7.same -/
def st_osmosislaw7_same_L0 (a : List api_Sess) (p_b : List api_Sess) (s3 : Int) : List AV × WH := ([(l_api_Sess a), (l_api_Sess p_b), (.int .i64 (a.length : Int)), (.int .i64 s3)], [])
def fin_osmosislaw7_same_L0 (a : List api_Sess) (p_b : List api_Sess) : Unit ⊕ Unit → Ex × Fast × WH := fun
  | .inl e => (.ret, [(4, (.bool false))], [])
  | .inr e => ((.exit 0), [], [])
abbrev rx_osmosislaw7_same_L0 (a : List api_Sess) (p_b : List api_Sess) := roundX [0, 1, 12, 13] (st_osmosislaw7_same_L0 a p_b) (fin_osmosislaw7_same_L0 a p_b)
def osmosislaw7_same_L0_s (a : List api_Sess) (p_b : List api_Sess) (s3 : Int) : Option ((Int) ⊕ (Unit ⊕ Unit)) :=
  cond (decide (s3 < (a.length : Int))) ((getI a s3).bind fun (x4 : api_Sess) => (getI p_b s3).bind fun (x5 : api_Sess) => cond (!(x4.Client == x5.Client && (x4.Seq == x5.Seq && (x4.Answer.Why == x5.Answer.Why && (x4.Answer.Value == x5.Answer.Value && true))))) (some (.inr (.inl ()))) (some (.inl (IntKind.i64.wrap (s3 + 1))))) (some (.inr (.inr ())))
def osmosislaw7_same_L0 (a : List api_Sess) (p_b : List api_Sess) (s3 : Int) : Option (Unit ⊕ Unit) := loopX (osmosislaw7_same_L0_s a p_b) KK s3
theorem b_osmosislaw7_same_L0 (d : Nat) {a : List api_Sess} {p_b : List api_Sess} {s3 : Int} {r : (Int) ⊕ (Unit ⊕ Unit)} (h : osmosislaw7_same_L0_s a p_b s3 = some r) : RunX (bexec (wcalls atab (d + 0)) KK 26 WB44_0) 0 (inL [0, 1, 12, 13] (st_osmosislaw7_same_L0 a p_b s3)) (rx_osmosislaw7_same_L0 a p_b r) := by
  obtain ⟨x4, hx4⟩ := wx (getI a s3)
  obtain ⟨x5, hx5⟩ := wx (getI p_b s3)
  have e : ∀ C : ACalls, wCode C (fun _ => none) KK 26 0 WB44_0 (inL [0, 1, 12, 13] (st_osmosislaw7_same_L0 a p_b s3)).1 (inL [0, 1, 12, 13] (st_osmosislaw7_same_L0 a p_b s3)).2 (.br 14 (.v 18 (.elem ((e_api_Sess x4) ++ F_api_Sess (a.drop (s3.toNat + 1)))) (.v 22 (.elem ((e_api_Sess x5) ++ F_api_Sess (p_b.drop (s3.toNat + 1)))) (.br 24 (.en [4] [none] [] []) (.en [0, 1, 12, 13] [none, none, none, none] [] [.slice none 4 0 0 true, .slice none 4 0 0 true, .undef, .undef])))) (.en [] [] [] [])) (rx_osmosislaw7_same_L0 a p_b r) = (((decide (s3 < (a.length : Int))) = true → (wP (.idxSlice 4 (.c (l_api_Sess a)) (.c (.int .i64 s3))) = some (.elem ((e_api_Sess x4) ++ F_api_Sess (a.drop (s3.toNat + 1)))) ∧ (wP (.idxSlice 4 (.c (l_api_Sess p_b)) (.c (.int .i64 s3))) = some (.elem ((e_api_Sess x5) ++ F_api_Sess (p_b.drop (s3.toNat + 1)))) ∧ (((!(x4.Client == x5.Client && (x4.Seq == x5.Seq && (x4.Answer.Why == x5.Answer.Why && (x4.Answer.Value == x5.Answer.Value && true))))) = true → lfe (rx_osmosislaw7_same_L0 a p_b) (.inr (.inl ())) r) ∧ ((!(x4.Client == x5.Client && (x4.Seq == x5.Seq && (x4.Answer.Why == x5.Answer.Why && (x4.Answer.Value == x5.Answer.Value && true))))) = false → lfe (rx_osmosislaw7_same_L0 a p_b) (.inl (IntKind.i64.wrap (s3 + 1))) r))))) ∧ ((decide (s3 < (a.length : Int))) = false → lfe (rx_osmosislaw7_same_L0 a p_b) (.inr (.inr ())) r)) := fun C => by kernel_rfl
  refine runS_of (fun _ _ h => by cases h) WB44_0_ok (Nat.le_of_ble_eq_true rfl) ((e _).mpr ?_)
  unfold osmosislaw7_same_L0_s at h
  refine ⟨fun hb => ?_, fun hb => ?_⟩
  · have h := cond_t hb h
    obtain ⟨q4, h⟩ := bget hx4 h
    refine ⟨wP_idx R_api_Sess q4, ?_⟩
    obtain ⟨q5, h⟩ := bget hx5 h
    refine ⟨wP_idx R_api_Sess q5, ?_⟩
    refine ⟨fun hb => ?_, fun hb => ?_⟩
    · have h := cond_t hb h
      exact lfe_of h
    · have h := cond_f hb h
      exact lfe_of h
  · have h := cond_f hb h
    exact lfe_of h
theorem s_osmosislaw7_same_L0 (d : Nat) {a : List api_Sess} {p_b : List api_Sess} {s3 : Int} {r : Unit ⊕ Unit} (h : osmosislaw7_same_L0 a p_b s3 = some r) : RunX (bloop (bexec (wcalls atab (d + 0)) KK 26 WB44_0) [0, 1, 12, 13] KK) 0 (inL [0, 1, 12, 13] (st_osmosislaw7_same_L0 a p_b s3)) (fin_osmosislaw7_same_L0 a p_b r) :=
  loop_of (st := st_osmosislaw7_same_L0 a p_b) (fin := fin_osmosislaw7_same_L0 a p_b) (step := osmosislaw7_same_L0_s a p_b) (fun e => by rcases e with e | e <;> (intro h; cases h)) (fun s x h => b_osmosislaw7_same_L0 d h) KK s3 r h

def osmosislaw7_same (a : List api_Sess) (p_b : List api_Sess) : Option (Bool) :=
  cond ((a.length : Int) != (p_b.length : Int)) (some false) ((osmosislaw7_same_L0 a p_b 0).bind fun (x6 : Unit ⊕ Unit) => cond (isL x6) (some false) (some true))
def out_osmosislaw7_same (a : List api_Sess) (p_b : List api_Sess) (r : Bool) : AV × WH := ((.bool r), [])

theorem s_osmosislaw7_same (d : Nat) {a : List api_Sess} {p_b : List api_Sess} {r : Bool} (h : osmosislaw7_same a p_b = some r) : Spec (wcalls atab (d + 1)) 44 [(l_api_Sess a), (l_api_Sess p_b)] [] (out_osmosislaw7_same a p_b r).1 (out_osmosislaw7_same a p_b r).2 := by
  obtain ⟨x6, hx6⟩ := wx (osmosislaw7_same_L0 a p_b 0)
  have e : ∀ C : ACalls, wBody C (fun _ => none) KK WF44 [(l_api_Sess a), (l_api_Sess p_b)] [] (.br 10 (.fin (some false) [] none) (.ite (isL x6) (.lp [none, none, none, none] [] [.slice none 4 0 0 true, .slice none 4 0 0 true, .undef, .undef] .ret [(4, (.bool false))] [] (.fin (some false) [] none)) (.lp [none, none, none, none] [] [.slice none 4 0 0 true, .slice none 4 0 0 true, .undef, .undef] (.exit 0) [] [] (.fin (some false) [] none)))) (out_osmosislaw7_same a p_b r).1 (out_osmosislaw7_same a p_b r).2 = (2 = 2 ∧ 2 ≤ 26 ∧ ((((a.length : Int) != (p_b.length : Int)) = true → lff (out_osmosislaw7_same a p_b) false r) ∧ (((a.length : Int) != (p_b.length : Int)) = false → (((isL x6) = true → (RunS (bloop (bexec C KK 26 WB44_0) [0, 1, 12, 13] KK) 0 [(0, (l_api_Sess a)), (1, (l_api_Sess p_b)), (12, (.int .i64 (a.length : Int))), (13, (.int .i64 0))] [] .ret [(4, (.bool false))] [] ∧ lff (out_osmosislaw7_same a p_b) false r)) ∧ ((isL x6) = false → (RunS (bloop (bexec C KK 26 WB44_0) [0, 1, 12, 13] KK) 0 [(0, (l_api_Sess a)), (1, (l_api_Sess p_b)), (12, (.int .i64 (a.length : Int))), (13, (.int .i64 0))] [] (.exit 0) [] [] ∧ lff (out_osmosislaw7_same a p_b) true r)))))) := fun C => by kernel_rfl
  refine spec_of (fun _ _ h => by cases h) rfl atab_44 WF44_ok ((e _).mpr ⟨rfl, by decide, ?_⟩)
  unfold osmosislaw7_same at h
  refine ⟨fun hb => ?_, fun hb => ?_⟩
  · have h := cond_t hb h
    exact lff_of h
  · have h := cond_f hb h
    obtain ⟨q6, h⟩ := bget hx6 h
    refine ⟨fun hb7 => ?_, fun hb7 => ?_⟩
    · have h := cond_t hb7 h
      refine ⟨by have h := s_osmosislaw7_same_L0 (d + 0) q6; rw [isL_t hb7] at h; exact h, ?_⟩
      exact lff_of h
    · have h := cond_f hb7 h
      refine ⟨by have h := s_osmosislaw7_same_L0 (d + 0) q6; rw [isL_f hb7] at h; exact h, ?_⟩
      exact lff_of h

/- (*osmosis/session.Sessions).Last -/
abbrev in_session_Sessions_Last_J0 (client : Int) (p_s : session_Sessions) : Fast × WH := ([(0, (.ptr (some (0, 0)))), (1, (.int .i64 client)), (4, (.ptr (some (1, 0))))], [(some (.cells (e_session_Sessions p_s) false false)), (some (.cells (e_api_Sess (⟨(⟨0, 0, (⟨0, ([] : List UInt8)⟩ : api_Answer)⟩ : api_Sess).Client, (⟨0, 0, (⟨0, ([] : List UInt8)⟩ : api_Answer)⟩ : api_Sess).Seq, ((⟨0, 0, (⟨0, ([] : List UInt8)⟩ : api_Answer)⟩ : api_Sess).Answer)⟩ : api_Sess)) false false))])
def fin_session_Sessions_Last_J0 (client : Int) (p_s : session_Sessions) : Unit ⊕ Unit → Ex × Fast × WH := fun
  | .inl e => (.ret, [(4, (.ptr (some (1, 0)))), (5, (.bool false))], [(some (.cells (e_session_Sessions p_s) false false)), (some (.cells (e_api_Sess (⟨(⟨0, 0, (⟨0, ([] : List UInt8)⟩ : api_Answer)⟩ : api_Sess).Client, (⟨0, 0, (⟨0, ([] : List UInt8)⟩ : api_Answer)⟩ : api_Sess).Seq, ((⟨0, 0, (⟨0, ([] : List UInt8)⟩ : api_Answer)⟩ : api_Sess).Answer)⟩ : api_Sess)) false false))])
  | .inr e => (.normal, [(0, (.ptr (some (0, 0)))), (1, (.int .i64 client)), (4, (.ptr (some (1, 0))))], [(some (.cells (e_session_Sessions p_s) false false)), (some (.cells (e_api_Sess (⟨(⟨(⟨0, 0, (⟨0, ([] : List UInt8)⟩ : api_Answer)⟩ : api_Sess).Client, (⟨0, 0, (⟨0, ([] : List UInt8)⟩ : api_Answer)⟩ : api_Sess).Seq, ((⟨0, 0, (⟨0, ([] : List UInt8)⟩ : api_Answer)⟩ : api_Sess).Answer)⟩ : api_Sess).Client, (⟨(⟨0, 0, (⟨0, ([] : List UInt8)⟩ : api_Answer)⟩ : api_Sess).Client, (⟨0, 0, (⟨0, ([] : List UInt8)⟩ : api_Answer)⟩ : api_Sess).Seq, ((⟨0, 0, (⟨0, ([] : List UInt8)⟩ : api_Answer)⟩ : api_Sess).Answer)⟩ : api_Sess).Seq, ((⟨(⟨0, 0, (⟨0, ([] : List UInt8)⟩ : api_Answer)⟩ : api_Sess).Client, (⟨0, 0, (⟨0, ([] : List UInt8)⟩ : api_Answer)⟩ : api_Sess).Seq, ((⟨0, 0, (⟨0, ([] : List UInt8)⟩ : api_Answer)⟩ : api_Sess).Answer)⟩ : api_Sess).Answer)⟩ : api_Sess)) false false))])
def session_Sessions_Last_J0 (client : Int) (p_s : session_Sessions) : Option (Unit ⊕ Unit) :=
  cond (decide (client < 0)) (some (.inl ())) (cond (decide (client ≥ 4)) (some (.inl ())) ((getI (p_s.l.toL) client).bind fun (x1 : api_Sess) => cond (x1.Seq == 0) (some (.inl ())) (some (.inr ()))))
theorem s_session_Sessions_Last_J0 (d : Nat) {client : Int} {p_s : session_Sessions} {r : Unit ⊕ Unit} (h : session_Sessions_Last_J0 client p_s = some r) : RunX (bexec (wcalls atab (d + 0)) KK 29 WJ45_ba) 1 (in_session_Sessions_Last_J0 client p_s) (fin_session_Sessions_Last_J0 client p_s r) := by
  obtain ⟨x1, hx1⟩ := wx (getI (p_s.l.toL) client)
  have e : ∀ C : ACalls, wCode C (fun _ => none) KK 29 1 WJ45_ba (in_session_Sessions_Last_J0 client p_s).1 (in_session_Sessions_Last_J0 client p_s).2 (.br 8 (.st none (.en [4, 5] [none, none] [] [])) (.br 12 (.st none (.en [4, 5] [none, none] [] [])) (.v 17 (.ptr (some (0, 0 + client.toNat * 4))) (.v 19 (.int .i64 x1.Seq) (.br 21 (.st none (.en [4, 5] [none, none] [] [])) (.en [0, 1, 4] [none, none, none] [] [])))))) (fin_session_Sessions_Last_J0 client p_s r) = (((decide (client < 0)) = true → (.ret = (fin_session_Sessions_Last_J0 client p_s r).1 ∧ [(4, (.ptr (some (1, 0)))), (5, (.bool false))] = (fin_session_Sessions_Last_J0 client p_s r).2.1 ∧ [(some (.cells (e_session_Sessions p_s) false false)), (some (.cells (e_api_Sess (⟨0, 0, (⟨0, ([] : List UInt8)⟩ : api_Answer)⟩ : api_Sess)) false false))] = (fin_session_Sessions_Last_J0 client p_s r).2.2)) ∧ ((decide (client < 0)) = false → (((decide (client ≥ 4)) = true → (.ret = (fin_session_Sessions_Last_J0 client p_s r).1 ∧ [(4, (.ptr (some (1, 0)))), (5, (.bool false))] = (fin_session_Sessions_Last_J0 client p_s r).2.1 ∧ [(some (.cells (e_session_Sessions p_s) false false)), (some (.cells (e_api_Sess (⟨0, 0, (⟨0, ([] : List UInt8)⟩ : api_Answer)⟩ : api_Sess)) false false))] = (fin_session_Sessions_Last_J0 client p_s r).2.2)) ∧ ((decide (client ≥ 4)) = false → (wP (.idxArr 4 4 (.c (.ptr (some (0, 0)))) (.c (.int .i64 client))) = some (.ptr (some (0, 0 + client.toNat * 4))) ∧ (cPart false (0 + client.toNat * 4 + 1) 1 (e_session_Sessions p_s) = some (.int .i64 x1.Seq) ∧ (((x1.Seq == 0) = true → (.ret = (fin_session_Sessions_Last_J0 client p_s r).1 ∧ [(4, (.ptr (some (1, 0)))), (5, (.bool false))] = (fin_session_Sessions_Last_J0 client p_s r).2.1 ∧ [(some (.cells (e_session_Sessions p_s) false false)), (some (.cells (e_api_Sess (⟨0, 0, (⟨0, ([] : List UInt8)⟩ : api_Answer)⟩ : api_Sess)) false false))] = (fin_session_Sessions_Last_J0 client p_s r).2.2)) ∧ ((x1.Seq == 0) = false → (.normal = (fin_session_Sessions_Last_J0 client p_s r).1 ∧ [(0, (.ptr (some (0, 0)))), (1, (.int .i64 client)), (4, (.ptr (some (1, 0))))] = (fin_session_Sessions_Last_J0 client p_s r).2.1 ∧ [(some (.cells (e_session_Sessions p_s) false false)), (some (.cells (e_api_Sess (⟨(⟨0, 0, (⟨0, ([] : List UInt8)⟩ : api_Answer)⟩ : api_Sess).Client, (⟨0, 0, (⟨0, ([] : List UInt8)⟩ : api_Answer)⟩ : api_Sess).Seq, ((⟨0, 0, (⟨0, ([] : List UInt8)⟩ : api_Answer)⟩ : api_Sess).Answer)⟩ : api_Sess)) false false))] = (fin_session_Sessions_Last_J0 client p_s r).2.2))))))))) := fun C => by kernel_rfl
  refine runS_of (fun _ _ h => by cases h) WJ45_ba_ok (Nat.le_of_ble_eq_true rfl) ((e _).mpr ?_)
  unfold session_Sessions_Last_J0 at h
  refine ⟨fun hb => ?_, fun hb => ?_⟩
  · have h := cond_t hb h
    obtain rfl := Option.some.inj h
    refine ⟨rfl, ?_, ?_⟩ <;> first | rfl | (simp only [roundX, zipKeep, fin_session_Sessions_Last_J0, List.length_set, List.length_append, List.length_replicate, List.length_cons, List.length_nil, Nat.add_zero, Nat.zero_add]; done) | simp [roundX, zipKeep, fin_session_Sessions_Last_J0]
  · have h := cond_f hb h
    refine ⟨fun hb => ?_, fun hb => ?_⟩
    · have h := cond_t hb h
      obtain rfl := Option.some.inj h
      refine ⟨rfl, ?_, ?_⟩ <;> first | rfl | (simp only [roundX, zipKeep, fin_session_Sessions_Last_J0, List.length_set, List.length_append, List.length_replicate, List.length_cons, List.length_nil, Nat.add_zero, Nat.zero_add]; done) | simp [roundX, zipKeep, fin_session_Sessions_Last_J0]
    · have h := cond_f hb h
      obtain ⟨q1, h⟩ := bget hx1 h
      refine ⟨wP_arr q1 rfl, ?_⟩
      refine ⟨cP_arr (p := 0) (o := 1) R_api_Sess q1 rfl rfl, ?_⟩
      refine ⟨fun hb => ?_, fun hb => ?_⟩
      · have h := cond_t hb h
        obtain rfl := Option.some.inj h
        refine ⟨rfl, ?_, ?_⟩ <;> first | rfl | (simp only [roundX, zipKeep, fin_session_Sessions_Last_J0, List.length_set, List.length_append, List.length_replicate, List.length_cons, List.length_nil, Nat.add_zero, Nat.zero_add]; done) | simp [roundX, zipKeep, fin_session_Sessions_Last_J0]
      · have h := cond_f hb h
        obtain rfl := Option.some.inj h
        refine ⟨rfl, ?_, ?_⟩ <;> first | rfl | (simp only [roundX, zipKeep, fin_session_Sessions_Last_J0, List.length_set, List.length_append, List.length_replicate, List.length_cons, List.length_nil, Nat.add_zero, Nat.zero_add]; done) | simp [roundX, zipKeep, fin_session_Sessions_Last_J0]

def session_Sessions_Last (client : Int) (p_s : session_Sessions) : Option (api_Sess × Bool) :=
  (session_Sessions_Last_J0 client p_s).bind fun (x2 : Unit ⊕ Unit) => cond (isL x2) (some ((⟨(⟨0, 0, (⟨0, ([] : List UInt8)⟩ : api_Answer)⟩ : api_Sess).Client, (⟨0, 0, (⟨0, ([] : List UInt8)⟩ : api_Answer)⟩ : api_Sess).Seq, ((⟨0, 0, (⟨0, ([] : List UInt8)⟩ : api_Answer)⟩ : api_Sess).Answer)⟩ : api_Sess), false)) ((getI (p_s.l.toL) client).bind fun (x4 : api_Sess) => some (x4, true))
def out_session_Sessions_Last (client : Int) (p_s : session_Sessions) (r : api_Sess × Bool) : AV × WH := ((.tuple [(.agg (e_api_Sess r.1)), (.bool r.2)]), [(some (.cells (e_session_Sessions p_s) false false))])

theorem s_session_Sessions_Last (d : Nat) {client : Int} {p_s : session_Sessions} {r : api_Sess × Bool} (h : session_Sessions_Last client p_s = some r) : Spec (wcalls atab (d + 1)) 45 [(.ptr (some (0, 0))), (.int .i64 client)] [(some (.cells (e_session_Sessions p_s) false false))] (out_session_Sessions_Last client p_s r).1 (out_session_Sessions_Last client p_s r).2 := by
  obtain ⟨x2, hx2⟩ := wx (session_Sessions_Last_J0 client p_s)
  obtain ⟨x4, hx4⟩ := wx (getI (p_s.l.toL) client)
  have e : ∀ C : ACalls, wBody C (fun _ => none) KK WF45 [(.ptr (some (0, 0))), (.int .i64 client)] [(some (.cells (e_session_Sessions p_s) false false))] (.sk (.ite (isL x2) (.jn [0, 1, 4] [none, none, none] [] [] .ret [(4, (.ptr (some (1, 0)))), (5, (.bool false))] [(some (.cells (e_session_Sessions p_s) false false)), (some (.cells (e_api_Sess (⟨(⟨0, 0, (⟨0, ([] : List UInt8)⟩ : api_Answer)⟩ : api_Sess).Client, (⟨0, 0, (⟨0, ([] : List UInt8)⟩ : api_Answer)⟩ : api_Sess).Seq, ((⟨0, 0, (⟨0, ([] : List UInt8)⟩ : api_Answer)⟩ : api_Sess).Answer)⟩ : api_Sess)) false false))] (.fin (some false) [] none)) (.jn [0, 1, 4] [none, none, none] [] [] .normal [(0, (.ptr (some (0, 0)))), (1, (.int .i64 client)), (4, (.ptr (some (1, 0))))] [(some (.cells (e_session_Sessions p_s) false false)), (some (.cells (e_api_Sess (⟨(⟨(⟨0, 0, (⟨0, ([] : List UInt8)⟩ : api_Answer)⟩ : api_Sess).Client, (⟨0, 0, (⟨0, ([] : List UInt8)⟩ : api_Answer)⟩ : api_Sess).Seq, ((⟨0, 0, (⟨0, ([] : List UInt8)⟩ : api_Answer)⟩ : api_Sess).Answer)⟩ : api_Sess).Client, (⟨(⟨0, 0, (⟨0, ([] : List UInt8)⟩ : api_Answer)⟩ : api_Sess).Client, (⟨0, 0, (⟨0, ([] : List UInt8)⟩ : api_Answer)⟩ : api_Sess).Seq, ((⟨0, 0, (⟨0, ([] : List UInt8)⟩ : api_Answer)⟩ : api_Sess).Answer)⟩ : api_Sess).Seq, ((⟨(⟨0, 0, (⟨0, ([] : List UInt8)⟩ : api_Answer)⟩ : api_Sess).Client, (⟨0, 0, (⟨0, ([] : List UInt8)⟩ : api_Answer)⟩ : api_Sess).Seq, ((⟨0, 0, (⟨0, ([] : List UInt8)⟩ : api_Answer)⟩ : api_Sess).Answer)⟩ : api_Sess).Answer)⟩ : api_Sess)) false false))] (.v 27 (.ptr (some (0, 0 + client.toNat * 4))) (.v 28 (.agg (e_api_Sess x4)) (.st none (.fin (some false) [] none))))))) (out_session_Sessions_Last client p_s r).1 (out_session_Sessions_Last client p_s r).2 = (2 = 2 ∧ 2 ≤ 29 ∧ (((isL x2) = true → (RunS (bexec C KK 29 WJ45_ba) 1 [(0, (.ptr (some (0, 0)))), (1, (.int .i64 client)), (4, (.ptr (some (1, 0))))] [(some (.cells (e_session_Sessions p_s) false false)), (some (.cells (e_api_Sess (⟨0, 0, (⟨0, ([] : List UInt8)⟩ : api_Answer)⟩ : api_Sess)) false false))] .ret [(4, (.ptr (some (1, 0)))), (5, (.bool false))] [(some (.cells (e_session_Sessions p_s) false false)), (some (.cells (e_api_Sess (⟨(⟨0, 0, (⟨0, ([] : List UInt8)⟩ : api_Answer)⟩ : api_Sess).Client, (⟨0, 0, (⟨0, ([] : List UInt8)⟩ : api_Answer)⟩ : api_Sess).Seq, ((⟨0, 0, (⟨0, ([] : List UInt8)⟩ : api_Answer)⟩ : api_Sess).Answer)⟩ : api_Sess)) false false))] ∧ (@Eq AV (.tuple [(.agg (e_api_Sess (⟨(⟨0, 0, (⟨0, ([] : List UInt8)⟩ : api_Answer)⟩ : api_Sess).Client, (⟨0, 0, (⟨0, ([] : List UInt8)⟩ : api_Answer)⟩ : api_Sess).Seq, ((⟨0, 0, (⟨0, ([] : List UInt8)⟩ : api_Answer)⟩ : api_Sess).Answer)⟩ : api_Sess))), (.bool false)]) (out_session_Sessions_Last client p_s r).1 ∧ @Eq WH [(some (.cells (e_session_Sessions p_s) false false))] (out_session_Sessions_Last client p_s r).2))) ∧ ((isL x2) = false → (RunS (bexec C KK 29 WJ45_ba) 1 [(0, (.ptr (some (0, 0)))), (1, (.int .i64 client)), (4, (.ptr (some (1, 0))))] [(some (.cells (e_session_Sessions p_s) false false)), (some (.cells (e_api_Sess (⟨0, 0, (⟨0, ([] : List UInt8)⟩ : api_Answer)⟩ : api_Sess)) false false))] .normal [(0, (.ptr (some (0, 0)))), (1, (.int .i64 client)), (4, (.ptr (some (1, 0))))] [(some (.cells (e_session_Sessions p_s) false false)), (some (.cells (e_api_Sess (⟨(⟨(⟨0, 0, (⟨0, ([] : List UInt8)⟩ : api_Answer)⟩ : api_Sess).Client, (⟨0, 0, (⟨0, ([] : List UInt8)⟩ : api_Answer)⟩ : api_Sess).Seq, ((⟨0, 0, (⟨0, ([] : List UInt8)⟩ : api_Answer)⟩ : api_Sess).Answer)⟩ : api_Sess).Client, (⟨(⟨0, 0, (⟨0, ([] : List UInt8)⟩ : api_Answer)⟩ : api_Sess).Client, (⟨0, 0, (⟨0, ([] : List UInt8)⟩ : api_Answer)⟩ : api_Sess).Seq, ((⟨0, 0, (⟨0, ([] : List UInt8)⟩ : api_Answer)⟩ : api_Sess).Answer)⟩ : api_Sess).Seq, ((⟨(⟨0, 0, (⟨0, ([] : List UInt8)⟩ : api_Answer)⟩ : api_Sess).Client, (⟨0, 0, (⟨0, ([] : List UInt8)⟩ : api_Answer)⟩ : api_Sess).Seq, ((⟨0, 0, (⟨0, ([] : List UInt8)⟩ : api_Answer)⟩ : api_Sess).Answer)⟩ : api_Sess).Answer)⟩ : api_Sess)) false false))] ∧ (wP (.idxArr 4 4 (.c (.ptr (some (0, 0)))) (.c (.int .i64 client))) = some (.ptr (some (0, 0 + client.toNat * 4))) ∧ (cPart true (0 + client.toNat * 4) 4 (e_session_Sessions p_s) = some (.agg (e_api_Sess x4)) ∧ lff (out_session_Sessions_Last client p_s) (x4, true) r)))))) := fun C => by kernel_rfl
  refine spec_of (fun _ _ h => by cases h) rfl atab_45 WF45_ok ((e _).mpr ⟨rfl, by decide, ?_⟩)
  unfold session_Sessions_Last at h
  obtain ⟨q2, h⟩ := bget hx2 h
  refine ⟨fun hb3 => ?_, fun hb3 => ?_⟩
  · have h := cond_t hb3 h
    refine ⟨by have h := s_session_Sessions_Last_J0 (d + 0) q2; rw [isL_t hb3] at h; exact h, ?_⟩
    obtain rfl := Option.some.inj h
    refine ⟨?_, ?_⟩ <;> first | rfl | (simp only [out_session_Sessions_Last, List.length_set, List.length_append, List.length_replicate, List.length_cons, List.length_nil, List.length_take, List.length_drop, Nat.add_zero, Nat.zero_add]; done) | simp [out_session_Sessions_Last]
  · have h := cond_f hb3 h
    refine ⟨by have h := s_session_Sessions_Last_J0 (d + 0) q2; rw [isL_f hb3] at h; exact h, ?_⟩
    obtain ⟨q4, h⟩ := bget hx4 h
    refine ⟨wP_arr q4 rfl, ?_⟩
    refine ⟨cP_arr (p := 0) (o := 0) R_api_Sess q4 rfl rfl, ?_⟩
    exact lff_of h

/- (*osmosis/osmosisref1.Sessions).Last -/
def st_osmosisref1_Sessions_Last_2_L0 (p_b1 : List api_Sess) (client : Int) (s3 : Int) : List AV × WH := ([(.ptr (some (0, 0))), (.int .i64 client), (.ptr (some (2, 0))), (.int .i64 s3)], [(some (.cells [(.acc 1 0 4 p_b1.length true)] false false)), (some (.cells (F_api_Sess p_b1) false true)), (some (.cells (e_api_Sess (⟨(⟨0, 0, (⟨0, ([] : List UInt8)⟩ : api_Answer)⟩ : api_Sess).Client, (⟨0, 0, (⟨0, ([] : List UInt8)⟩ : api_Answer)⟩ : api_Sess).Seq, ((⟨0, 0, (⟨0, ([] : List UInt8)⟩ : api_Answer)⟩ : api_Sess).Answer)⟩ : api_Sess)) false false))])
def fin_osmosisref1_Sessions_Last_2_L0 (p_b1 : List api_Sess) (client : Int) : api_Sess ⊕ Unit → Ex × Fast × WH := fun
  | .inl e => (.ret, [(4, (.ptr (some (2, 0)))), (5, (.bool true))], [(some (.cells [(.acc 1 0 4 p_b1.length true)] false false)), (some (.cells (F_api_Sess p_b1) false true)), (some (.cells (e_api_Sess e) false false))])
  | .inr e => ((.exit 0), [(4, (.ptr (some (2, 0))))], [(some (.cells [(.acc 1 0 4 p_b1.length true)] false false)), (some (.cells (F_api_Sess p_b1) false true)), (some (.cells (e_api_Sess (⟨(⟨(⟨0, 0, (⟨0, ([] : List UInt8)⟩ : api_Answer)⟩ : api_Sess).Client, (⟨0, 0, (⟨0, ([] : List UInt8)⟩ : api_Answer)⟩ : api_Sess).Seq, ((⟨0, 0, (⟨0, ([] : List UInt8)⟩ : api_Answer)⟩ : api_Sess).Answer)⟩ : api_Sess).Client, (⟨(⟨0, 0, (⟨0, ([] : List UInt8)⟩ : api_Answer)⟩ : api_Sess).Client, (⟨0, 0, (⟨0, ([] : List UInt8)⟩ : api_Answer)⟩ : api_Sess).Seq, ((⟨0, 0, (⟨0, ([] : List UInt8)⟩ : api_Answer)⟩ : api_Sess).Answer)⟩ : api_Sess).Seq, ((⟨(⟨0, 0, (⟨0, ([] : List UInt8)⟩ : api_Answer)⟩ : api_Sess).Client, (⟨0, 0, (⟨0, ([] : List UInt8)⟩ : api_Answer)⟩ : api_Sess).Seq, ((⟨0, 0, (⟨0, ([] : List UInt8)⟩ : api_Answer)⟩ : api_Sess).Answer)⟩ : api_Sess).Answer)⟩ : api_Sess)) false false))])
abbrev rx_osmosisref1_Sessions_Last_2_L0 (p_b1 : List api_Sess) (client : Int) := roundX [0, 1, 4, 6] (st_osmosisref1_Sessions_Last_2_L0 p_b1 client) (fin_osmosisref1_Sessions_Last_2_L0 p_b1 client)
def osmosisref1_Sessions_Last_2_L0_s (p_b1 : List api_Sess) (client : Int) (s3 : Int) : Option ((Int) ⊕ (api_Sess ⊕ Unit)) :=
  cond (decide (s3 < (p_b1.length : Int))) ((getI p_b1 s3).bind fun (x4 : api_Sess) => cond (x4.Client == client) ((getI p_b1 s3).bind fun (x5 : api_Sess) => some (.inr (.inl x5))) (some (.inl (IntKind.i64.wrap (s3 + 1))))) (some (.inr (.inr ())))
def osmosisref1_Sessions_Last_2_L0 (p_b1 : List api_Sess) (client : Int) (s3 : Int) : Option (api_Sess ⊕ Unit) := loopX (osmosisref1_Sessions_Last_2_L0_s p_b1 client) KK s3
theorem b_osmosisref1_Sessions_Last_2_L0 (d : Nat) {p_b1 : List api_Sess} {client : Int} {s3 : Int} {r : (Int) ⊕ (api_Sess ⊕ Unit)} (h : osmosisref1_Sessions_Last_2_L0_s p_b1 client s3 = some r) : RunX (bexec (wcalls atab (d + 0)) KK 34 WB48_0) 2 (inL [0, 1, 4, 6] (st_osmosisref1_Sessions_Last_2_L0 p_b1 client s3)) (rx_osmosisref1_Sessions_Last_2_L0 p_b1 client r) := by
  obtain ⟨x4, hx4⟩ := wx (getI p_b1 s3)
  obtain ⟨x5, hx5⟩ := wx (getI p_b1 s3)
  have e : ∀ C : ACalls, wCode C (fun _ => none) KK 34 2 WB48_0 (inL [0, 1, 4, 6] (st_osmosisref1_Sessions_Last_2_L0 p_b1 client s3)).1 (inL [0, 1, 4, 6] (st_osmosisref1_Sessions_Last_2_L0 p_b1 client s3)).2 (.br 13 (.v 21 (.ptr (some (1, 0 + s3.toNat * 4))) (.v 23 (.int .i64 x4.Client) (.br 25 (.v 31 (.ptr (some (1, 0 + s3.toNat * 4))) (.v 32 (.agg (e_api_Sess x5)) (.st none (.en [4, 5] [none, none] [] [])))) (.en [0, 1, 4, 6] [none, none, none, none] [] [])))) (.en [4] [none] [] [])) (rx_osmosisref1_Sessions_Last_2_L0 p_b1 client r) = (((decide (s3 < (p_b1.length : Int))) = true → (wP (.idxSlice 4 (.c (.acc 1 0 4 p_b1.length true)) (.c (.int .i64 s3))) = some (.ptr (some (1, 0 + s3.toNat * 4))) ∧ (cPart false (0 + s3.toNat * 4) 1 (F_api_Sess p_b1) = some (.int .i64 x4.Client) ∧ (((x4.Client == client) = true → (wP (.idxSlice 4 (.c (.acc 1 0 4 p_b1.length true)) (.c (.int .i64 s3))) = some (.ptr (some (1, 0 + s3.toNat * 4))) ∧ (cPart true (0 + s3.toNat * 4) 4 (F_api_Sess p_b1) = some (.agg (e_api_Sess x5)) ∧ lfe (rx_osmosisref1_Sessions_Last_2_L0 p_b1 client) (.inr (.inl x5)) r))) ∧ ((x4.Client == client) = false → lfe (rx_osmosisref1_Sessions_Last_2_L0 p_b1 client) (.inl (IntKind.i64.wrap (s3 + 1))) r))))) ∧ ((decide (s3 < (p_b1.length : Int))) = false → ((.exit 0) = (rx_osmosisref1_Sessions_Last_2_L0 p_b1 client r).1 ∧ [(4, (.ptr (some (2, 0))))] = (rx_osmosisref1_Sessions_Last_2_L0 p_b1 client r).2.1 ∧ [(some (.cells [(.acc 1 0 4 p_b1.length true)] false false)), (some (.cells (F_api_Sess p_b1) false true)), (some (.cells (e_api_Sess (⟨(⟨0, 0, (⟨0, ([] : List UInt8)⟩ : api_Answer)⟩ : api_Sess).Client, (⟨0, 0, (⟨0, ([] : List UInt8)⟩ : api_Answer)⟩ : api_Sess).Seq, ((⟨0, 0, (⟨0, ([] : List UInt8)⟩ : api_Answer)⟩ : api_Sess).Answer)⟩ : api_Sess)) false false))] = (rx_osmosisref1_Sessions_Last_2_L0 p_b1 client r).2.2))) := fun C => by kernel_rfl
  refine runS_of (fun _ _ h => by cases h) WB48_0_ok (Nat.le_of_ble_eq_true rfl) ((e _).mpr ?_)
  unfold osmosisref1_Sessions_Last_2_L0_s at h
  refine ⟨fun hb => ?_, fun hb => ?_⟩
  · have h := cond_t hb h
    obtain ⟨q4, h⟩ := bget hx4 h
    refine ⟨wP_idxA R_api_Sess q4, ?_⟩
    refine ⟨cP_row (o := 0) R_api_Sess q4 rfl, ?_⟩
    refine ⟨fun hb => ?_, fun hb => ?_⟩
    · have h := cond_t hb h
      obtain ⟨q5, h⟩ := bget hx5 h
      refine ⟨wP_idxA R_api_Sess q5, ?_⟩
      refine ⟨cP_row (o := 0) R_api_Sess q5 rfl, ?_⟩
      exact lfe_of h
    · have h := cond_f hb h
      exact lfe_of h
  · have h := cond_f hb h
    obtain rfl := Option.some.inj h
    refine ⟨rfl, ?_, ?_⟩ <;> first | rfl | (simp only [rx_osmosisref1_Sessions_Last_2_L0, roundX, zipKeep, fin_osmosisref1_Sessions_Last_2_L0, st_osmosisref1_Sessions_Last_2_L0, List.length_set, List.length_append, List.length_replicate, List.length_cons, List.length_nil, Nat.add_zero, Nat.zero_add]; done) | simp [rx_osmosisref1_Sessions_Last_2_L0, roundX, zipKeep, fin_osmosisref1_Sessions_Last_2_L0, st_osmosisref1_Sessions_Last_2_L0]
theorem s_osmosisref1_Sessions_Last_2_L0 (d : Nat) {p_b1 : List api_Sess} {client : Int} {s3 : Int} {r : api_Sess ⊕ Unit} (h : osmosisref1_Sessions_Last_2_L0 p_b1 client s3 = some r) : RunX (bloop (bexec (wcalls atab (d + 0)) KK 34 WB48_0) [0, 1, 4, 6] KK) 2 (inL [0, 1, 4, 6] (st_osmosisref1_Sessions_Last_2_L0 p_b1 client s3)) (fin_osmosisref1_Sessions_Last_2_L0 p_b1 client r) :=
  loop_of (st := st_osmosisref1_Sessions_Last_2_L0 p_b1 client) (fin := fin_osmosisref1_Sessions_Last_2_L0 p_b1 client) (step := osmosisref1_Sessions_Last_2_L0_s p_b1 client) (fun e => by rcases e with e | e <;> (intro h; cases h)) (fun s x h => b_osmosisref1_Sessions_Last_2_L0 d h) KK s3 r h

def osmosisref1_Sessions_Last_2 (client : Int) (p_b1 : List api_Sess) : Option (api_Sess × Bool) :=
  (osmosisref1_Sessions_Last_2_L0 p_b1 client 0).bind fun (x6 : api_Sess ⊕ Unit) => cond (isL x6) (some ((⟨(getL x6).Client, (getL x6).Seq, ((getL x6).Answer)⟩ : api_Sess), true)) (some ((⟨0, 0, (⟨0, ([] : List UInt8)⟩ : api_Answer)⟩ : api_Sess), false))
def out_osmosisref1_Sessions_Last_2 (client : Int) (p_b1 : List api_Sess) (r : api_Sess × Bool) : AV × WH := ((.tuple [(.agg (e_api_Sess r.1)), (.bool r.2)]), [(some (.cells [(.acc 1 0 4 p_b1.length true)] false false)), (some (.cells (F_api_Sess p_b1) false true))])

theorem s_osmosisref1_Sessions_Last_2 (d : Nat) {client : Int} {p_b1 : List api_Sess} {r : api_Sess × Bool} (h : osmosisref1_Sessions_Last_2 client p_b1 = some r) : Spec (wcalls atab (d + 1)) 48 [(.ptr (some (0, 0))), (.int .i64 client)] [(some (.cells [(.acc 1 0 4 p_b1.length true)] false false)), (some (.cells (F_api_Sess p_b1) false true))] (out_osmosisref1_Sessions_Last_2 client p_b1 r).1 (out_osmosisref1_Sessions_Last_2 client p_b1 r).2 := by
  obtain ⟨x6, hx6⟩ := wx (osmosisref1_Sessions_Last_2_L0 p_b1 client 0)
  have e : ∀ C : ACalls, wBody C (fun _ => none) KK WF48 [(.ptr (some (0, 0))), (.int .i64 client)] [(some (.cells [(.acc 1 0 4 p_b1.length true)] false false)), (some (.cells (F_api_Sess p_b1) false true))] (.ite (isL x6) (.lp [none, none, none, none] [] [] .ret [(4, (.ptr (some (2, 0)))), (5, (.bool true))] [(some (.cells [(.acc 1 0 4 p_b1.length true)] false false)), (some (.cells (F_api_Sess p_b1) false true)), (some (.cells (e_api_Sess (⟨(getL x6).Client, (getL x6).Seq, ((getL x6).Answer)⟩ : api_Sess)) false false))] (.fin (some false) [] none)) (.lp [none, none, none, none] [] [] (.exit 0) [(4, (.ptr (some (2, 0))))] [(some (.cells [(.acc 1 0 4 p_b1.length true)] false false)), (some (.cells (F_api_Sess p_b1) false true)), (some (.cells (e_api_Sess (⟨(⟨(⟨0, 0, (⟨0, ([] : List UInt8)⟩ : api_Answer)⟩ : api_Sess).Client, (⟨0, 0, (⟨0, ([] : List UInt8)⟩ : api_Answer)⟩ : api_Sess).Seq, ((⟨0, 0, (⟨0, ([] : List UInt8)⟩ : api_Answer)⟩ : api_Sess).Answer)⟩ : api_Sess).Client, (⟨(⟨0, 0, (⟨0, ([] : List UInt8)⟩ : api_Answer)⟩ : api_Sess).Client, (⟨0, 0, (⟨0, ([] : List UInt8)⟩ : api_Answer)⟩ : api_Sess).Seq, ((⟨0, 0, (⟨0, ([] : List UInt8)⟩ : api_Answer)⟩ : api_Sess).Answer)⟩ : api_Sess).Seq, ((⟨(⟨0, 0, (⟨0, ([] : List UInt8)⟩ : api_Answer)⟩ : api_Sess).Client, (⟨0, 0, (⟨0, ([] : List UInt8)⟩ : api_Answer)⟩ : api_Sess).Seq, ((⟨0, 0, (⟨0, ([] : List UInt8)⟩ : api_Answer)⟩ : api_Sess).Answer)⟩ : api_Sess).Answer)⟩ : api_Sess)) false false))] (.st none (.fin (some false) [] none)))) (out_osmosisref1_Sessions_Last_2 client p_b1 r).1 (out_osmosisref1_Sessions_Last_2 client p_b1 r).2 = (2 = 2 ∧ 2 ≤ 34 ∧ (((isL x6) = true → (RunS (bloop (bexec C KK 34 WB48_0) [0, 1, 4, 6] KK) 2 [(0, (.ptr (some (0, 0)))), (1, (.int .i64 client)), (4, (.ptr (some (2, 0)))), (6, (.int .i64 0))] [(some (.cells [(.acc 1 0 4 p_b1.length true)] false false)), (some (.cells (F_api_Sess p_b1) false true)), (some (.cells (e_api_Sess (⟨0, 0, (⟨0, ([] : List UInt8)⟩ : api_Answer)⟩ : api_Sess)) false false))] .ret [(4, (.ptr (some (2, 0)))), (5, (.bool true))] [(some (.cells [(.acc 1 0 4 p_b1.length true)] false false)), (some (.cells (F_api_Sess p_b1) false true)), (some (.cells (e_api_Sess (⟨(getL x6).Client, (getL x6).Seq, ((getL x6).Answer)⟩ : api_Sess)) false false))] ∧ (@Eq AV (.tuple [(.agg (e_api_Sess (⟨(getL x6).Client, (getL x6).Seq, ((getL x6).Answer)⟩ : api_Sess))), (.bool true)]) (out_osmosisref1_Sessions_Last_2 client p_b1 r).1 ∧ @Eq WH [(some (.cells [(.acc 1 0 4 p_b1.length true)] false false)), (some (.cells (F_api_Sess p_b1) false true))] (out_osmosisref1_Sessions_Last_2 client p_b1 r).2))) ∧ ((isL x6) = false → (RunS (bloop (bexec C KK 34 WB48_0) [0, 1, 4, 6] KK) 2 [(0, (.ptr (some (0, 0)))), (1, (.int .i64 client)), (4, (.ptr (some (2, 0)))), (6, (.int .i64 0))] [(some (.cells [(.acc 1 0 4 p_b1.length true)] false false)), (some (.cells (F_api_Sess p_b1) false true)), (some (.cells (e_api_Sess (⟨0, 0, (⟨0, ([] : List UInt8)⟩ : api_Answer)⟩ : api_Sess)) false false))] (.exit 0) [(4, (.ptr (some (2, 0))))] [(some (.cells [(.acc 1 0 4 p_b1.length true)] false false)), (some (.cells (F_api_Sess p_b1) false true)), (some (.cells (e_api_Sess (⟨(⟨(⟨0, 0, (⟨0, ([] : List UInt8)⟩ : api_Answer)⟩ : api_Sess).Client, (⟨0, 0, (⟨0, ([] : List UInt8)⟩ : api_Answer)⟩ : api_Sess).Seq, ((⟨0, 0, (⟨0, ([] : List UInt8)⟩ : api_Answer)⟩ : api_Sess).Answer)⟩ : api_Sess).Client, (⟨(⟨0, 0, (⟨0, ([] : List UInt8)⟩ : api_Answer)⟩ : api_Sess).Client, (⟨0, 0, (⟨0, ([] : List UInt8)⟩ : api_Answer)⟩ : api_Sess).Seq, ((⟨0, 0, (⟨0, ([] : List UInt8)⟩ : api_Answer)⟩ : api_Sess).Answer)⟩ : api_Sess).Seq, ((⟨(⟨0, 0, (⟨0, ([] : List UInt8)⟩ : api_Answer)⟩ : api_Sess).Client, (⟨0, 0, (⟨0, ([] : List UInt8)⟩ : api_Answer)⟩ : api_Sess).Seq, ((⟨0, 0, (⟨0, ([] : List UInt8)⟩ : api_Answer)⟩ : api_Sess).Answer)⟩ : api_Sess).Answer)⟩ : api_Sess)) false false))] ∧ (@Eq AV (.tuple [(.agg (e_api_Sess (⟨0, 0, (⟨0, ([] : List UInt8)⟩ : api_Answer)⟩ : api_Sess))), (.bool false)]) (out_osmosisref1_Sessions_Last_2 client p_b1 r).1 ∧ @Eq WH [(some (.cells [(.acc 1 0 4 p_b1.length true)] false false)), (some (.cells (F_api_Sess p_b1) false true))] (out_osmosisref1_Sessions_Last_2 client p_b1 r).2))))) := fun C => by kernel_rfl
  refine spec_of (fun _ _ h => by cases h) rfl atab_48 WF48_ok ((e _).mpr ⟨rfl, by decide, ?_⟩)
  unfold osmosisref1_Sessions_Last_2 at h
  obtain ⟨q6, h⟩ := bget hx6 h
  refine ⟨fun hb7 => ?_, fun hb7 => ?_⟩
  · have h := cond_t hb7 h
    refine ⟨by have h := s_osmosisref1_Sessions_Last_2_L0 (d + 0) q6; rw [isL_t hb7] at h; exact h, ?_⟩
    obtain rfl := Option.some.inj h
    refine ⟨?_, ?_⟩ <;> first | rfl | (simp only [out_osmosisref1_Sessions_Last_2, List.length_set, List.length_append, List.length_replicate, List.length_cons, List.length_nil, List.length_take, List.length_drop, Nat.add_zero, Nat.zero_add]; done) | simp [out_osmosisref1_Sessions_Last_2]
  · have h := cond_f hb7 h
    refine ⟨by have h := s_osmosisref1_Sessions_Last_2_L0 (d + 0) q6; rw [isL_f hb7] at h; exact h, ?_⟩
    obtain rfl := Option.some.inj h
    refine ⟨?_, ?_⟩ <;> first | rfl | (simp only [out_osmosisref1_Sessions_Last_2, List.length_set, List.length_append, List.length_replicate, List.length_cons, List.length_nil, List.length_take, List.length_drop, Nat.add_zero, Nat.zero_add]; done) | simp [out_osmosisref1_Sessions_Last_2]

/- (*osmosis/osmosisref1.Sessions).Note -/
abbrev in_osmosisref1_Sessions_Note_2_J0 (p_x : api_Sess) (x1 : api_Sess × Bool) (p_b1 : List api_Sess) : Fast × WH := ([(0, (.ptr (some (0, 0)))), (3, (.ptr (some (2, 0)))), (5, (.ptr (some (3, 0))))], [(some (.cells [(.acc 1 0 4 p_b1.length true)] false false)), (some (.cells (F_api_Sess p_b1) false true)), (some (.cells (e_api_Sess p_x) false false)), (some (.cells (e_api_Sess x1.1) false false))])
def fin_osmosisref1_Sessions_Note_2_J0 (p_x : api_Sess) (x1 : api_Sess × Bool) (p_b1 : List api_Sess) : Unit ⊕ Unit → Ex × Fast × WH := fun
  | .inl e => (.ret, [(4, (.bool false))], [(some (.cells [(.acc 1 0 4 p_b1.length true)] false false)), (some (.cells (F_api_Sess p_b1) false true))])
  | .inr e => (.normal, [(0, (.ptr (some (0, 0)))), (3, (.ptr (some (2, 0))))], [(some (.cells [(.acc 1 0 4 p_b1.length true)] false false)), (some (.cells (F_api_Sess p_b1) false true)), (some (.cells (e_api_Sess p_x) false false))])
def osmosisref1_Sessions_Note_2_J0 (p_x : api_Sess) (x1 : api_Sess × Bool) (p_b1 : List api_Sess) : Option (Unit ⊕ Unit) :=
  cond (decide (p_x.Client < 0)) (some (.inl ())) (cond (decide (p_x.Client ≥ 4)) (some (.inl ())) (cond (decide (p_x.Seq < 1)) (some (.inl ())) (cond (decide (p_x.Seq ≤ x1.1.Seq)) (some (.inl ())) (some (.inr ())))))
theorem s_osmosisref1_Sessions_Note_2_J0 (d : Nat) {p_x : api_Sess} {x1 : api_Sess × Bool} {p_b1 : List api_Sess} {r : Unit ⊕ Unit} (h : osmosisref1_Sessions_Note_2_J0 p_x x1 p_b1 = some r) : RunX (bexec (wcalls atab (d + 0)) KK 96 WJ47_bba) 2 (in_osmosisref1_Sessions_Note_2_J0 p_x x1 p_b1) (fin_osmosisref1_Sessions_Note_2_J0 p_x x1 p_b1 r) := by
  have e : ∀ C : ACalls, wCode C (fun _ => none) KK 96 2 WJ47_bba (in_osmosisref1_Sessions_Note_2_J0 p_x x1 p_b1).1 (in_osmosisref1_Sessions_Note_2_J0 p_x x1 p_b1).2 (.br 20 (.en [4] [none] [] []) (.br 25 (.en [4] [none] [] []) (.br 30 (.en [4] [none] [] []) (.br 36 (.en [4] [none] [] []) (.en [0, 3] [none, none] [] []))))) (fin_osmosisref1_Sessions_Note_2_J0 p_x x1 p_b1 r) = (((decide (p_x.Client < 0)) = true → lfe (fin_osmosisref1_Sessions_Note_2_J0 p_x x1 p_b1) (.inl ()) r) ∧ ((decide (p_x.Client < 0)) = false → (((decide (p_x.Client ≥ 4)) = true → lfe (fin_osmosisref1_Sessions_Note_2_J0 p_x x1 p_b1) (.inl ()) r) ∧ ((decide (p_x.Client ≥ 4)) = false → (((decide (p_x.Seq < 1)) = true → lfe (fin_osmosisref1_Sessions_Note_2_J0 p_x x1 p_b1) (.inl ()) r) ∧ ((decide (p_x.Seq < 1)) = false → (((decide (p_x.Seq ≤ x1.1.Seq)) = true → lfe (fin_osmosisref1_Sessions_Note_2_J0 p_x x1 p_b1) (.inl ()) r) ∧ ((decide (p_x.Seq ≤ x1.1.Seq)) = false → lfe (fin_osmosisref1_Sessions_Note_2_J0 p_x x1 p_b1) (.inr ()) r)))))))) := fun C => by kernel_rfl
  refine runS_of (fun _ _ h => by cases h) WJ47_bba_ok (Nat.le_of_ble_eq_true rfl) ((e _).mpr ?_)
  unfold osmosisref1_Sessions_Note_2_J0 at h
  refine ⟨fun hb => ?_, fun hb => ?_⟩
  · have h := cond_t hb h
    exact lfe_of h
  · have h := cond_f hb h
    refine ⟨fun hb => ?_, fun hb => ?_⟩
    · have h := cond_t hb h
      exact lfe_of h
    · have h := cond_f hb h
      refine ⟨fun hb => ?_, fun hb => ?_⟩
      · have h := cond_t hb h
        exact lfe_of h
      · have h := cond_f hb h
        refine ⟨fun hb => ?_, fun hb => ?_⟩
        · have h := cond_t hb h
          exact lfe_of h
        · have h := cond_f hb h
          exact lfe_of h

abbrev in_osmosisref1_Sessions_Note_2_J1 (s18 : Bool × Int × List api_Sess) (p_b1 : List api_Sess) (p_x : api_Sess) : Fast × WH := ([(0, (.ptr (some (0, 0)))), (3, (.ptr (some (2, 0)))), (7, (.acc 3 0 4 s18.2.2.length true)), (8, (.bool s18.1)), (9, (.int .i64 s18.2.1))], [(some (.cells [(.acc 1 0 4 p_b1.length true)] false false)), (some (.cells (F_api_Sess p_b1) false true)), (some (.cells (e_api_Sess p_x) false false)), (some (.cells (F_api_Sess s18.2.2) false true))])
def fin_osmosisref1_Sessions_Note_2_J1 (s18 : Bool × Int × List api_Sess) (p_b1 : List api_Sess) (p_x : api_Sess) : Bool → Ex × Fast × WH := fun e => (.normal, [(0, (.ptr (some (0, 0)))), (3, (.ptr (some (2, 0)))), (7, (.acc 3 0 4 s18.2.2.length true)), (8, (.bool s18.1)), (9, (.int .i64 s18.2.1)), (60, (.bool e))], [(some (.cells [(.acc 1 0 4 p_b1.length true)] false false)), (some (.cells (F_api_Sess p_b1) false true)), (some (.cells (e_api_Sess p_x) false false)), (some (.cells (F_api_Sess s18.2.2) false true))])
def osmosisref1_Sessions_Note_2_J1 (s18 : Bool × Int × List api_Sess) (p_b1 : List api_Sess) (p_x : api_Sess) : Option (Bool) :=
  cond (!s18.1) ((getI p_b1 s18.2.1).bind fun (x19 : api_Sess) => some (decide (x19.Client ≥ p_x.Client))) (some false)
theorem s_osmosisref1_Sessions_Note_2_J1 (d : Nat) {s18 : Bool × Int × List api_Sess} {p_b1 : List api_Sess} {p_x : api_Sess} {r : Bool} (h : osmosisref1_Sessions_Note_2_J1 s18 p_b1 p_x = some r) : RunX (bexec (wcalls atab (d + 0)) KK 96 WJ47_bbbbbabklbakaa) 2 (in_osmosisref1_Sessions_Note_2_J1 s18 p_b1 p_x) (fin_osmosisref1_Sessions_Note_2_J1 s18 p_b1 p_x r) := by
  obtain ⟨x19, hx19⟩ := wx (getI p_b1 s18.2.1)
  have e : ∀ C : ACalls, wCode C (fun _ => none) KK 96 2 WJ47_bbbbbabklbakaa (in_osmosisref1_Sessions_Note_2_J1 s18 p_b1 p_x).1 (in_osmosisref1_Sessions_Note_2_J1 s18 p_b1 p_x).2 (.br 48 (.v 54 (.ptr (some (1, 0 + s18.2.1.toNat * 4))) (.v 56 (.int .i64 x19.Client) (.en [0, 3, 7, 8, 9, 60] [none, none, none, none, none, none] [] [.undef, .undef, .slice none 4 0 0 true, .undef, .undef, .undef]))) (.en [0, 3, 7, 8, 9, 60] [none, none, none, none, none, none] [] [.undef, .undef, .slice none 4 0 0 true, .undef, .undef, .undef])) (fin_osmosisref1_Sessions_Note_2_J1 s18 p_b1 p_x r) = (((!s18.1) = true → (wP (.idxSlice 4 (.c (.acc 1 0 4 p_b1.length true)) (.c (.int .i64 s18.2.1))) = some (.ptr (some (1, 0 + s18.2.1.toNat * 4))) ∧ (cPart false (0 + s18.2.1.toNat * 4) 1 (F_api_Sess p_b1) = some (.int .i64 x19.Client) ∧ lfe (fin_osmosisref1_Sessions_Note_2_J1 s18 p_b1 p_x) (decide (x19.Client ≥ p_x.Client)) r))) ∧ ((!s18.1) = false → lfe (fin_osmosisref1_Sessions_Note_2_J1 s18 p_b1 p_x) false r)) := fun C => by kernel_rfl
  refine runS_of (fun _ _ h => by cases h) WJ47_bbbbbabklbakaa_ok (Nat.le_of_ble_eq_true rfl) ((e _).mpr ?_)
  unfold osmosisref1_Sessions_Note_2_J1 at h
  refine ⟨fun hb => ?_, fun hb => ?_⟩
  · have h := cond_t hb h
    obtain ⟨q19, h⟩ := bget hx19 h
    refine ⟨wP_idxA R_api_Sess q19, ?_⟩
    refine ⟨cP_row (o := 0) R_api_Sess q19 rfl, ?_⟩
    exact lfe_of h
  · have h := cond_f hb h
    exact lfe_of h

abbrev in_osmosisref1_Sessions_Note_2_J2 (s18 : Bool × Int × List api_Sess) (p_b1 : List api_Sess) (p_x : api_Sess) : Fast × WH := ([(0, (.ptr (some (0, 0)))), (3, (.ptr (some (2, 0)))), (7, (.acc 3 0 4 s18.2.2.length true)), (8, (.bool s18.1)), (9, (.int .i64 s18.2.1))], [(some (.cells [(.acc 1 0 4 p_b1.length true)] false false)), (some (.cells (F_api_Sess p_b1) false true)), (some (.cells (e_api_Sess p_x) false false)), (some (.cells (F_api_Sess s18.2.2) false true))])
def fin_osmosisref1_Sessions_Note_2_J2 (s18 : Bool × Int × List api_Sess) (p_b1 : List api_Sess) (p_x : api_Sess) : (Bool × List api_Sess) → Ex × Fast × WH := fun e => (.normal, [(0, (.ptr (some (0, 0)))), (3, (.ptr (some (2, 0)))), (7, (.acc 3 0 4 e.2.length true)), (8, (.bool e.1)), (9, (.int .i64 s18.2.1))], [(some (.cells [(.acc 1 0 4 p_b1.length true)] false false)), (some (.cells (F_api_Sess p_b1) false true)), (some (.cells (e_api_Sess p_x) false false)), (some (.cells (F_api_Sess e.2) false true))])
def osmosisref1_Sessions_Note_2_J2 (s18 : Bool × Int × List api_Sess) (p_b1 : List api_Sess) (p_x : api_Sess) : Option ((Bool × List api_Sess)) :=
  (osmosisref1_Sessions_Note_2_J1 s18 p_b1 p_x).bind fun (x20 : Bool) => cond x20 (gd (fitsB 40 (s18.2.2 ++ [p_x]).length) (some (true, (s18.2.2 ++ [p_x])))) (some (s18.1, s18.2.2))
theorem s_osmosisref1_Sessions_Note_2_J2 (d : Nat) {s18 : Bool × Int × List api_Sess} {p_b1 : List api_Sess} {p_x : api_Sess} {r : (Bool × List api_Sess)} (h : osmosisref1_Sessions_Note_2_J2 s18 p_b1 p_x = some r) : RunX (bexec (wcalls atab (d + 0)) KK 96 WJ47_bbbbbabklbaka) 2 (in_osmosisref1_Sessions_Note_2_J2 s18 p_b1 p_x) (fin_osmosisref1_Sessions_Note_2_J2 s18 p_b1 p_x r) := by
  obtain ⟨x20, hx20⟩ := wx (osmosisref1_Sessions_Note_2_J1 s18 p_b1 p_x)
  have e : ∀ C : ACalls, wCode C (fun _ => none) KK 96 2 WJ47_bbbbbabklbaka (in_osmosisref1_Sessions_Note_2_J2 s18 p_b1 p_x).1 (in_osmosisref1_Sessions_Note_2_J2 s18 p_b1 p_x).2 (.jn [0, 3, 7, 8, 9] [none, none, none, none, none] [] [.undef, .undef, .slice none 4 0 0 true, .undef, .undef] .normal [(0, (.ptr (some (0, 0)))), (3, (.ptr (some (2, 0)))), (7, (.acc 3 0 4 s18.2.2.length true)), (8, (.bool s18.1)), (9, (.int .i64 s18.2.1)), (60, (.bool x20))] [(some (.cells [(.acc 1 0 4 p_b1.length true)] false false)), (some (.cells (F_api_Sess p_b1) false true)), (some (.cells (e_api_Sess p_x) false false)), (some (.cells (F_api_Sess s18.2.2) false true))] (.br 60 (.ap 64 (s18.2.2 ++ [p_x]).length (F_api_Sess (s18.2.2 ++ [p_x])) (.en [0, 3, 7, 8, 9] [none, none, none, none, none] [] [.undef, .undef, .slice none 4 0 0 true, .undef, .undef])) (.en [0, 3, 7, 8, 9] [none, none, none, none, none] [] [.undef, .undef, .slice none 4 0 0 true, .undef, .undef]))) (fin_osmosisref1_Sessions_Note_2_J2 s18 p_b1 p_x r) = (RunS (bexec C KK 96 WJ47_bbbbbabklbakaa) 2 [(0, (.ptr (some (0, 0)))), (3, (.ptr (some (2, 0)))), (7, (.acc 3 0 4 s18.2.2.length true)), (8, (.bool s18.1)), (9, (.int .i64 s18.2.1))] [(some (.cells [(.acc 1 0 4 p_b1.length true)] false false)), (some (.cells (F_api_Sess p_b1) false true)), (some (.cells (e_api_Sess p_x) false false)), (some (.cells (F_api_Sess s18.2.2) false true))] .normal [(0, (.ptr (some (0, 0)))), (3, (.ptr (some (2, 0)))), (7, (.acc 3 0 4 s18.2.2.length true)), (8, (.bool s18.1)), (9, (.int .i64 s18.2.1)), (60, (.bool x20))] [(some (.cells [(.acc 1 0 4 p_b1.length true)] false false)), (some (.cells (F_api_Sess p_b1) false true)), (some (.cells (e_api_Sess p_x) false false)), (some (.cells (F_api_Sess s18.2.2) false true))] ∧ ((x20 = true → (s18.2.2.length + 1 = (s18.2.2 ++ [p_x]).length ∧ (F_api_Sess s18.2.2 ++ F_api_Sess [p_x] = F_api_Sess (s18.2.2 ++ [p_x]) ∧ (fitsB 40 (s18.2.2 ++ [p_x]).length = true ∧ lfe (fin_osmosisref1_Sessions_Note_2_J2 s18 p_b1 p_x) (true, (s18.2.2 ++ [p_x])) r)))) ∧ (x20 = false → lfe (fin_osmosisref1_Sessions_Note_2_J2 s18 p_b1 p_x) (s18.1, s18.2.2) r))) := fun C => by kernel_rfl
  refine runS_of (fun _ _ h => by cases h) WJ47_bbbbbabklbaka_ok (Nat.le_of_ble_eq_true rfl) ((e _).mpr ?_)
  unfold osmosisref1_Sessions_Note_2_J2 at h
  obtain ⟨q20, h⟩ := bget hx20 h
  refine ⟨s_osmosisref1_Sessions_Note_2_J1 (d + 0) q20, ?_⟩
  refine ⟨fun hb => ?_, fun hb => ?_⟩
  · have h := cond_t hb h
    obtain ⟨q21, h⟩ := gd_some h
    refine ⟨by simp, ?_⟩
    refine ⟨(Row.app R_api_Sess _ _).symm, ?_⟩
    refine ⟨q21, ?_⟩
    exact lfe_of h
  · have h := cond_f hb h
    exact lfe_of h

def st_osmosisref1_Sessions_Note_2_L3 (p_b1 : List api_Sess) (p_x : api_Sess) (s18 : Bool × Int × List api_Sess) : List AV × WH := ([(.ptr (some (0, 0))), (.ptr (some (2, 0))), (.acc 3 0 4 s18.2.2.length true), (.bool s18.1), (.int .i64 s18.2.1)], [(some (.cells [(.acc 1 0 4 p_b1.length true)] false false)), (some (.cells (F_api_Sess p_b1) false true)), (some (.cells (e_api_Sess p_x) false false)), (some (.cells (F_api_Sess s18.2.2) false true))])
def fin_osmosisref1_Sessions_Note_2_L3 (p_b1 : List api_Sess) (p_x : api_Sess) : (Bool × List api_Sess) → Ex × Fast × WH := fun e => ((.exit 0), [(0, (.ptr (some (0, 0)))), (3, (.ptr (some (2, 0)))), (7, (.acc 3 0 4 e.2.length true)), (8, (.bool e.1))], [(some (.cells [(.acc 1 0 4 p_b1.length true)] false false)), (some (.cells (F_api_Sess p_b1) false true)), (some (.cells (e_api_Sess p_x) false false)), (some (.cells (F_api_Sess e.2) false true))])
abbrev rx_osmosisref1_Sessions_Note_2_L3 (p_b1 : List api_Sess) (p_x : api_Sess) := roundX [0, 3, 7, 8, 9] (st_osmosisref1_Sessions_Note_2_L3 p_b1 p_x) (fin_osmosisref1_Sessions_Note_2_L3 p_b1 p_x)
def osmosisref1_Sessions_Note_2_L3_s (p_b1 : List api_Sess) (p_x : api_Sess) (s18 : Bool × Int × List api_Sess) : Option ((Bool × Int × List api_Sess) ⊕ ((Bool × List api_Sess))) :=
  cond (decide (s18.2.1 < (p_b1.length : Int))) ((osmosisref1_Sessions_Note_2_J2 s18 p_b1 p_x).bind fun (x22 : (Bool × List api_Sess)) => (getI p_b1 s18.2.1).bind fun (x23 : api_Sess) => cond (x23.Client != p_x.Client) ((getI p_b1 s18.2.1).bind fun (x24 : api_Sess) => gd (fitsB 40 (x22.2 ++ [x24]).length) (some (.inl (x22.1, (IntKind.i64.wrap (s18.2.1 + 1)), (x22.2 ++ [x24]))))) (some (.inl (x22.1, (IntKind.i64.wrap (s18.2.1 + 1)), x22.2)))) (some (.inr (s18.1, s18.2.2)))
def osmosisref1_Sessions_Note_2_L3 (p_b1 : List api_Sess) (p_x : api_Sess) (s18 : Bool × Int × List api_Sess) : Option ((Bool × List api_Sess)) := loopX (osmosisref1_Sessions_Note_2_L3_s p_b1 p_x) KK s18
theorem b_osmosisref1_Sessions_Note_2_L3 (d : Nat) {p_b1 : List api_Sess} {p_x : api_Sess} {s18 : Bool × Int × List api_Sess} {r : (Bool × Int × List api_Sess) ⊕ ((Bool × List api_Sess))} (h : osmosisref1_Sessions_Note_2_L3_s p_b1 p_x s18 = some r) : RunX (bexec (wcalls atab (d + 0)) KK 96 WB47_0) 2 (inL [0, 3, 7, 8, 9] (st_osmosisref1_Sessions_Note_2_L3 p_b1 p_x s18)) (rx_osmosisref1_Sessions_Note_2_L3 p_b1 p_x r) := by
  obtain ⟨x22, hx22⟩ := wx (osmosisref1_Sessions_Note_2_J2 s18 p_b1 p_x)
  obtain ⟨x23, hx23⟩ := wx (getI p_b1 s18.2.1)
  obtain ⟨x24, hx24⟩ := wx (getI p_b1 s18.2.1)
  have e : ∀ C : ACalls, wCode C (fun _ => none) KK 96 2 WB47_0 (inL [0, 3, 7, 8, 9] (st_osmosisref1_Sessions_Note_2_L3 p_b1 p_x s18)).1 (inL [0, 3, 7, 8, 9] (st_osmosisref1_Sessions_Note_2_L3 p_b1 p_x s18)).2 (.br 43 (.sk (.jn [0, 3, 7, 8, 9] [none, none, none, none, none] [] [.undef, .undef, .slice none 4 0 0 true, .undef, .undef] .normal [(0, (.ptr (some (0, 0)))), (3, (.ptr (some (2, 0)))), (7, (.acc 3 0 4 x22.2.length true)), (8, (.bool x22.1)), (9, (.int .i64 s18.2.1))] [(some (.cells [(.acc 1 0 4 p_b1.length true)] false false)), (some (.cells (F_api_Sess p_b1) false true)), (some (.cells (e_api_Sess p_x) false false)), (some (.cells (F_api_Sess x22.2) false true))] (.v 70 (.ptr (some (1, 0 + s18.2.1.toNat * 4))) (.v 72 (.int .i64 x23.Client) (.br 75 (.v 82 (.ptr (some (1, 0 + s18.2.1.toNat * 4))) (.v 83 (.agg (e_api_Sess x24)) (.ap 85 (x22.2 ++ [x24]).length (F_api_Sess (x22.2 ++ [x24])) (.en [0, 3, 7, 8, 9] [none, none, none, none, none] [] [.undef, .undef, .slice none 4 0 0 true, .undef, .undef])))) (.en [0, 3, 7, 8, 9] [none, none, none, none, none] [] [.undef, .undef, .slice none 4 0 0 true, .undef, .undef])))))) (.en [0, 3, 7, 8] [none, none, none, none] [] [.undef, .undef, .slice none 4 0 0 true, .undef])) (rx_osmosisref1_Sessions_Note_2_L3 p_b1 p_x r) = (((decide (s18.2.1 < (p_b1.length : Int))) = true → (RunS (bexec C KK 96 WJ47_bbbbbabklbaka) 2 [(0, (.ptr (some (0, 0)))), (3, (.ptr (some (2, 0)))), (7, (.acc 3 0 4 s18.2.2.length true)), (8, (.bool s18.1)), (9, (.int .i64 s18.2.1))] [(some (.cells [(.acc 1 0 4 p_b1.length true)] false false)), (some (.cells (F_api_Sess p_b1) false true)), (some (.cells (e_api_Sess p_x) false false)), (some (.cells (F_api_Sess s18.2.2) false true))] .normal [(0, (.ptr (some (0, 0)))), (3, (.ptr (some (2, 0)))), (7, (.acc 3 0 4 x22.2.length true)), (8, (.bool x22.1)), (9, (.int .i64 s18.2.1))] [(some (.cells [(.acc 1 0 4 p_b1.length true)] false false)), (some (.cells (F_api_Sess p_b1) false true)), (some (.cells (e_api_Sess p_x) false false)), (some (.cells (F_api_Sess x22.2) false true))] ∧ (wP (.idxSlice 4 (.c (.acc 1 0 4 p_b1.length true)) (.c (.int .i64 s18.2.1))) = some (.ptr (some (1, 0 + s18.2.1.toNat * 4))) ∧ (cPart false (0 + s18.2.1.toNat * 4) 1 (F_api_Sess p_b1) = some (.int .i64 x23.Client) ∧ (((x23.Client != p_x.Client) = true → (wP (.idxSlice 4 (.c (.acc 1 0 4 p_b1.length true)) (.c (.int .i64 s18.2.1))) = some (.ptr (some (1, 0 + s18.2.1.toNat * 4))) ∧ (cPart true (0 + s18.2.1.toNat * 4) 4 (F_api_Sess p_b1) = some (.agg (e_api_Sess x24)) ∧ (x22.2.length + 1 = (x22.2 ++ [x24]).length ∧ (F_api_Sess x22.2 ++ F_api_Sess [x24] = F_api_Sess (x22.2 ++ [x24]) ∧ (fitsB 40 (x22.2 ++ [x24]).length = true ∧ lfe (rx_osmosisref1_Sessions_Note_2_L3 p_b1 p_x) (.inl (x22.1, (IntKind.i64.wrap (s18.2.1 + 1)), (x22.2 ++ [x24]))) r)))))) ∧ ((x23.Client != p_x.Client) = false → lfe (rx_osmosisref1_Sessions_Note_2_L3 p_b1 p_x) (.inl (x22.1, (IntKind.i64.wrap (s18.2.1 + 1)), x22.2)) r)))))) ∧ ((decide (s18.2.1 < (p_b1.length : Int))) = false → lfe (rx_osmosisref1_Sessions_Note_2_L3 p_b1 p_x) (.inr (s18.1, s18.2.2)) r)) := fun C => by kernel_rfl
  refine runS_of (fun _ _ h => by cases h) WB47_0_ok (Nat.le_of_ble_eq_true rfl) ((e _).mpr ?_)
  unfold osmosisref1_Sessions_Note_2_L3_s at h
  refine ⟨fun hb => ?_, fun hb => ?_⟩
  · have h := cond_t hb h
    obtain ⟨q22, h⟩ := bget hx22 h
    refine ⟨s_osmosisref1_Sessions_Note_2_J2 (d + 0) q22, ?_⟩
    obtain ⟨q23, h⟩ := bget hx23 h
    refine ⟨wP_idxA R_api_Sess q23, ?_⟩
    refine ⟨cP_row (o := 0) R_api_Sess q23 rfl, ?_⟩
    refine ⟨fun hb => ?_, fun hb => ?_⟩
    · have h := cond_t hb h
      obtain ⟨q24, h⟩ := bget hx24 h
      refine ⟨wP_idxA R_api_Sess q24, ?_⟩
      refine ⟨cP_row (o := 0) R_api_Sess q24 rfl, ?_⟩
      obtain ⟨q25, h⟩ := gd_some h
      refine ⟨by simp, ?_⟩
      refine ⟨(Row.app R_api_Sess _ _).symm, ?_⟩
      refine ⟨q25, ?_⟩
      exact lfe_of h
    · have h := cond_f hb h
      exact lfe_of h
  · have h := cond_f hb h
    exact lfe_of h
theorem s_osmosisref1_Sessions_Note_2_L3 (d : Nat) {p_b1 : List api_Sess} {p_x : api_Sess} {s18 : Bool × Int × List api_Sess} {r : (Bool × List api_Sess)} (h : osmosisref1_Sessions_Note_2_L3 p_b1 p_x s18 = some r) : RunX (bloop (bexec (wcalls atab (d + 0)) KK 96 WB47_0) [0, 3, 7, 8, 9] KK) 2 (inL [0, 3, 7, 8, 9] (st_osmosisref1_Sessions_Note_2_L3 p_b1 p_x s18)) (fin_osmosisref1_Sessions_Note_2_L3 p_b1 p_x r) :=
  loop_of (st := st_osmosisref1_Sessions_Note_2_L3 p_b1 p_x) (fin := fin_osmosisref1_Sessions_Note_2_L3 p_b1 p_x) (step := osmosisref1_Sessions_Note_2_L3_s p_b1 p_x) (fun e => by (intro h; cases h)) (fun s x h => b_osmosisref1_Sessions_Note_2_L3 d h) KK s18 r h

abbrev in_osmosisref1_Sessions_Note_2_J4 (x26 : (Bool × List api_Sess)) (p_x : api_Sess) (p_b1 : List api_Sess) : Fast × WH := ([(0, (.ptr (some (0, 0)))), (3, (.ptr (some (2, 0)))), (7, (.acc 3 0 4 x26.2.length true)), (8, (.bool x26.1))], [(some (.cells [(.acc 1 0 4 p_b1.length true)] false false)), (some (.cells (F_api_Sess p_b1) false true)), (some (.cells (e_api_Sess p_x) false false)), (some (.cells (F_api_Sess x26.2) false true))])
def fin_osmosisref1_Sessions_Note_2_J4 (x26 : (Bool × List api_Sess)) (p_x : api_Sess) (p_b1 : List api_Sess) : (List api_Sess) → Ex × Fast × WH := fun e => (.normal, [(0, (.ptr (some (0, 0)))), (7, (.acc 2 0 4 e.length true))], [(some (.cells [(.acc 1 0 4 p_b1.length true)] false false)), (some (.cells (F_api_Sess p_b1) false true)), (some (.cells (F_api_Sess e) false true))])
def osmosisref1_Sessions_Note_2_J4 (x26 : (Bool × List api_Sess)) (p_x : api_Sess) (p_b1 : List api_Sess) : Option ((List api_Sess)) :=
  cond (!x26.1) (gd (fitsB 40 (x26.2 ++ [p_x]).length) (some (x26.2 ++ [p_x]))) (some x26.2)
theorem s_osmosisref1_Sessions_Note_2_J4 (d : Nat) {x26 : (Bool × List api_Sess)} {p_x : api_Sess} {p_b1 : List api_Sess} {r : (List api_Sess)} (h : osmosisref1_Sessions_Note_2_J4 x26 p_x p_b1 = some r) : RunX (bexec (wcalls atab (d + 0)) KK 96 WJ47_bbbbbba) 2 (in_osmosisref1_Sessions_Note_2_J4 x26 p_x p_b1) (fin_osmosisref1_Sessions_Note_2_J4 x26 p_x p_b1 r) := by
  have e : ∀ C : ACalls, wCode C (fun _ => none) KK 96 2 WJ47_bbbbbba (in_osmosisref1_Sessions_Note_2_J4 x26 p_x p_b1).1 (in_osmosisref1_Sessions_Note_2_J4 x26 p_x p_b1).2 (.br 87 (.ap 91 (x26.2 ++ [p_x]).length (F_api_Sess (x26.2 ++ [p_x])) (.en [0, 7] [none, none] [] [.undef, .slice none 4 0 0 true])) (.en [0, 7] [none, none] [] [.undef, .slice none 4 0 0 true])) (fin_osmosisref1_Sessions_Note_2_J4 x26 p_x p_b1 r) = (((!x26.1) = true → (x26.2.length + 1 = (x26.2 ++ [p_x]).length ∧ (F_api_Sess x26.2 ++ F_api_Sess [p_x] = F_api_Sess (x26.2 ++ [p_x]) ∧ (fitsB 40 (x26.2 ++ [p_x]).length = true ∧ lfe (fin_osmosisref1_Sessions_Note_2_J4 x26 p_x p_b1) (x26.2 ++ [p_x]) r)))) ∧ ((!x26.1) = false → lfe (fin_osmosisref1_Sessions_Note_2_J4 x26 p_x p_b1) x26.2 r)) := fun C => by kernel_rfl
  refine runS_of (fun _ _ h => by cases h) WJ47_bbbbbba_ok (Nat.le_of_ble_eq_true rfl) ((e _).mpr ?_)
  unfold osmosisref1_Sessions_Note_2_J4 at h
  refine ⟨fun hb => ?_, fun hb => ?_⟩
  · have h := cond_t hb h
    obtain ⟨q27, h⟩ := gd_some h
    refine ⟨by simp, ?_⟩
    refine ⟨(Row.app R_api_Sess _ _).symm, ?_⟩
    refine ⟨q27, ?_⟩
    exact lfe_of h
  · have h := cond_f hb h
    exact lfe_of h

def osmosisref1_Sessions_Note_2 (p_x : api_Sess) (p_b1 : List api_Sess) : Option (Bool × List api_Sess) :=
  (osmosisref1_Sessions_Last_2 p_x.Client p_b1).bind fun (x1 : api_Sess × Bool) => (osmosisref1_Sessions_Note_2_J0 p_x x1 p_b1).bind fun (x2 : Unit ⊕ Unit) => cond (isL x2) (some (false, p_b1)) ((osmosisref1_Sessions_Note_2_L3 p_b1 p_x (false, 0, [])).bind fun (x26 : (Bool × List api_Sess)) => (osmosisref1_Sessions_Note_2_J4 x26 p_x p_b1).bind fun (x28 : (List api_Sess)) => some (true, x28))
def out_osmosisref1_Sessions_Note_2 (p_x : api_Sess) (p_b1 : List api_Sess) (r : Bool × List api_Sess) : AV × WH := ((.bool r.1), [(some (.cells [(.acc 2 0 4 r.2.length true)] false false)), none, (some (.cells (F_api_Sess r.2) false true))])

theorem s_osmosisref1_Sessions_Note_2 (d : Nat) {p_x : api_Sess} {p_b1 : List api_Sess} {r : Bool × List api_Sess} (h : osmosisref1_Sessions_Note_2 p_x p_b1 = some r) : Spec (wcalls atab (d + 2)) 47 [(.ptr (some (0, 0))), (.agg (e_api_Sess p_x))] [(some (.cells [(.acc 1 0 4 p_b1.length true)] false false)), (some (.cells (F_api_Sess p_b1) false true))] (out_osmosisref1_Sessions_Note_2 p_x p_b1 r).1 (out_osmosisref1_Sessions_Note_2 p_x p_b1 r).2 := by
  obtain ⟨x1, hx1⟩ := wx (osmosisref1_Sessions_Last_2 p_x.Client p_b1)
  obtain ⟨x2, hx2⟩ := wx (osmosisref1_Sessions_Note_2_J0 p_x x1 p_b1)
  obtain ⟨x26, hx26⟩ := wx (osmosisref1_Sessions_Note_2_L3 p_b1 p_x (false, 0, []))
  obtain ⟨x28, hx28⟩ := wx (osmosisref1_Sessions_Note_2_J4 x26 p_x p_b1)
  have e : ∀ C : ACalls, wBody C (fun _ => none) KK WF47 [(.ptr (some (0, 0))), (.agg (e_api_Sess p_x))] [(some (.cells [(.acc 1 0 4 p_b1.length true)] false false)), (some (.cells (F_api_Sess p_b1) false true))] (.call [] none [] (.tuple [(.agg (e_api_Sess x1.1)), (.bool x1.2)]) [(some (.cells [(.acc 1 0 4 p_b1.length true)] false false)), (some (.cells (F_api_Sess p_b1) false true))] (.st none (.ite (isL x2) (.jn [0, 3, 5] [none, none, none] [] [] .ret [(4, (.bool false))] [(some (.cells [(.acc 1 0 4 p_b1.length true)] false false)), (some (.cells (F_api_Sess p_b1) false true))] (.fin (some false) [] (some true))) (.jn [0, 3, 5] [none, none, none] [] [] .normal [(0, (.ptr (some (0, 0)))), (3, (.ptr (some (2, 0))))] [(some (.cells [(.acc 1 0 4 p_b1.length true)] false false)), (some (.cells (F_api_Sess p_b1) false true)), (some (.cells (e_api_Sess p_x) false false))] (.z 7 [.slice none 4 0 0 true] (.lp [none, none, (some true), none, none] [] [.undef, .undef, .slice none 4 0 0 true, .undef, .undef] (.exit 0) [(0, (.ptr (some (0, 0)))), (3, (.ptr (some (2, 0)))), (7, (.acc 3 0 4 x26.2.length true)), (8, (.bool x26.1))] [(some (.cells [(.acc 1 0 4 p_b1.length true)] false false)), (some (.cells (F_api_Sess p_b1) false true)), (some (.cells (e_api_Sess p_x) false false)), (some (.cells (F_api_Sess x26.2) false true))] (.jn [0, 3, 7, 8] [none, none, none, none] [] [.undef, .undef, .slice none 4 0 0 true, .undef] .normal [(0, (.ptr (some (0, 0)))), (7, (.acc 2 0 4 x28.length true))] [(some (.cells [(.acc 1 0 4 p_b1.length true)] false false)), (some (.cells (F_api_Sess p_b1) false true)), (some (.cells (F_api_Sess x28) false true))] (.st none (.kl [1] (.fin (some false) [] (some true))))))))))) (out_osmosisref1_Sessions_Note_2 p_x p_b1 r).1 (out_osmosisref1_Sessions_Note_2 p_x p_b1 r).2 = (2 = 2 ∧ 2 ≤ 96 ∧ (Spec C 48 [(.ptr (some (0, 0))), (.int .i64 p_x.Client)] [(some (.cells [(.acc 1 0 4 p_b1.length true)] false false)), (some (.cells (F_api_Sess p_b1) false true))] (.tuple [(.agg (e_api_Sess x1.1)), (.bool x1.2)]) [(some (.cells [(.acc 1 0 4 p_b1.length true)] false false)), (some (.cells (F_api_Sess p_b1) false true))] ∧ (2 ≤ 2 ∧ (((isL x2) = true → (RunS (bexec C KK 96 WJ47_bba) 2 [(0, (.ptr (some (0, 0)))), (3, (.ptr (some (2, 0)))), (5, (.ptr (some (3, 0))))] [(some (.cells [(.acc 1 0 4 p_b1.length true)] false false)), (some (.cells (F_api_Sess p_b1) false true)), (some (.cells (e_api_Sess p_x) false false)), (some (.cells (e_api_Sess x1.1) false false))] .ret [(4, (.bool false))] [(some (.cells [(.acc 1 0 4 p_b1.length true)] false false)), (some (.cells (F_api_Sess p_b1) false true))] ∧ lff (out_osmosisref1_Sessions_Note_2 p_x p_b1) (false, p_b1) r)) ∧ ((isL x2) = false → (RunS (bexec C KK 96 WJ47_bba) 2 [(0, (.ptr (some (0, 0)))), (3, (.ptr (some (2, 0)))), (5, (.ptr (some (3, 0))))] [(some (.cells [(.acc 1 0 4 p_b1.length true)] false false)), (some (.cells (F_api_Sess p_b1) false true)), (some (.cells (e_api_Sess p_x) false false)), (some (.cells (e_api_Sess x1.1) false false))] .normal [(0, (.ptr (some (0, 0)))), (3, (.ptr (some (2, 0))))] [(some (.cells [(.acc 1 0 4 p_b1.length true)] false false)), (some (.cells (F_api_Sess p_b1) false true)), (some (.cells (e_api_Sess p_x) false false))] ∧ (RunS (bloop (bexec C KK 96 WB47_0) [0, 3, 7, 8, 9] KK) 2 [(0, (.ptr (some (0, 0)))), (3, (.ptr (some (2, 0)))), (7, (.acc 3 0 4 0 true)), (8, (.bool false)), (9, (.int .i64 0))] [(some (.cells [(.acc 1 0 4 p_b1.length true)] false false)), (some (.cells (F_api_Sess p_b1) false true)), (some (.cells (e_api_Sess p_x) false false)), (some (.cells (F_api_Sess []) false true))] (.exit 0) [(0, (.ptr (some (0, 0)))), (3, (.ptr (some (2, 0)))), (7, (.acc 3 0 4 x26.2.length true)), (8, (.bool x26.1))] [(some (.cells [(.acc 1 0 4 p_b1.length true)] false false)), (some (.cells (F_api_Sess p_b1) false true)), (some (.cells (e_api_Sess p_x) false false)), (some (.cells (F_api_Sess x26.2) false true))] ∧ (RunS (bexec C KK 96 WJ47_bbbbbba) 2 [(0, (.ptr (some (0, 0)))), (3, (.ptr (some (2, 0)))), (7, (.acc 3 0 4 x26.2.length true)), (8, (.bool x26.1))] [(some (.cells [(.acc 1 0 4 p_b1.length true)] false false)), (some (.cells (F_api_Sess p_b1) false true)), (some (.cells (e_api_Sess p_x) false false)), (some (.cells (F_api_Sess x26.2) false true))] .normal [(0, (.ptr (some (0, 0)))), (7, (.acc 2 0 4 x28.length true))] [(some (.cells [(.acc 1 0 4 p_b1.length true)] false false)), (some (.cells (F_api_Sess p_b1) false true)), (some (.cells (F_api_Sess x28) false true))] ∧ lff (out_osmosisref1_Sessions_Note_2 p_x p_b1) (true, x28) r)))))))) := fun C => by kernel_rfl
  refine spec_of (fun _ _ h => by cases h) rfl atab_47 WF47_ok ((e _).mpr ⟨rfl, by decide, ?_⟩)
  unfold osmosisref1_Sessions_Note_2 at h
  obtain ⟨q1, h⟩ := bget hx1 h
  refine ⟨s_osmosisref1_Sessions_Last_2 (d + 0) q1, ?_⟩
  refine ⟨by decide, ?_⟩
  obtain ⟨q2, h⟩ := bget hx2 h
  refine ⟨fun hb3 => ?_, fun hb3 => ?_⟩
  · have h := cond_t hb3 h
    refine ⟨by have h := s_osmosisref1_Sessions_Note_2_J0 (d + 1) q2; rw [isL_t hb3] at h; exact h, ?_⟩
    exact lff_of h
  · have h := cond_f hb3 h
    refine ⟨by have h := s_osmosisref1_Sessions_Note_2_J0 (d + 1) q2; rw [isL_f hb3] at h; exact h, ?_⟩
    obtain ⟨q26, h⟩ := bget hx26 h
    refine ⟨s_osmosisref1_Sessions_Note_2_L3 (d + 1) q26, ?_⟩
    obtain ⟨q28, h⟩ := bget hx28 h
    refine ⟨s_osmosisref1_Sessions_Note_2_J4 (d + 1) q28, ?_⟩
    exact lff_of h

/- osmosis/osmosisref1.SessionsOf -/
def st_osmosisref1_SessionsOf_L0 (l : List api_Sess) (s5 : Int × List api_Sess) : List AV × WH := ([(l_api_Sess l), (.ptr (some (0, 0))), (.ptr (some (1, 0))), (.int .i64 s5.1)], [(some (.cells [(.acc 2 0 4 0 true)] false false)), (some (.cells [(.acc 3 0 4 s5.2.length true)] false false)), (some (.cells (F_api_Sess []) false true)), (some (.cells (F_api_Sess s5.2) false true))])
def fin_osmosisref1_SessionsOf_L0 (l : List api_Sess) : (List api_Sess) → Ex × Fast × WH := fun e => ((.exit 0), [(2, (.ptr (some (0, 0)))), (3, (.ptr (some (1, 0))))], [(some (.cells [(.acc 2 0 4 0 true)] false false)), (some (.cells [(.acc 3 0 4 e.length true)] false false)), (some (.cells (F_api_Sess []) false true)), (some (.cells (F_api_Sess e) false true))])
abbrev rx_osmosisref1_SessionsOf_L0 (l : List api_Sess) := roundX [0, 2, 3, 4] (st_osmosisref1_SessionsOf_L0 l) (fin_osmosisref1_SessionsOf_L0 l)
def osmosisref1_SessionsOf_L0_s (l : List api_Sess) (s5 : Int × List api_Sess) : Option ((Int × List api_Sess) ⊕ ((List api_Sess))) :=
  cond (decide (s5.1 < (l.length : Int))) ((getI l s5.1).bind fun (x6 : api_Sess) => (osmosisref1_Sessions_Note_2 x6 s5.2).bind fun (x7 : Bool × List api_Sess) => some (.inl ((IntKind.i64.wrap (s5.1 + 1)), x7.2))) (some (.inr s5.2))
def osmosisref1_SessionsOf_L0 (l : List api_Sess) (s5 : Int × List api_Sess) : Option ((List api_Sess)) := loopX (osmosisref1_SessionsOf_L0_s l) KK s5
theorem b_osmosisref1_SessionsOf_L0 (d : Nat) {l : List api_Sess} {s5 : Int × List api_Sess} {r : (Int × List api_Sess) ⊕ ((List api_Sess))} (h : osmosisref1_SessionsOf_L0_s l s5 = some r) : RunX (bexec (wcalls atab (d + 2)) KK 18 WB46_0) 0 (inL [0, 2, 3, 4] (st_osmosisref1_SessionsOf_L0 l s5)) (rx_osmosisref1_SessionsOf_L0 l r) := by
  obtain ⟨x6, hx6⟩ := wx (getI l s5.1)
  obtain ⟨x7, hx7⟩ := wx (osmosisref1_Sessions_Note_2 x6 s5.2)
  have e : ∀ C : ACalls, wCode C (fun _ => none) KK 18 0 WB46_0 (inL [0, 2, 3, 4] (st_osmosisref1_SessionsOf_L0 l s5)).1 (inL [0, 2, 3, 4] (st_osmosisref1_SessionsOf_L0 l s5)).2 (.br 9 (.v 14 (.elem ((e_api_Sess x6) ++ F_api_Sess (l.drop (s5.1.toNat + 1)))) (.call [] none [] (.bool x7.1) [(some (.cells [(.acc 2 0 4 x7.2.length true)] false false)), none, (some (.cells (F_api_Sess x7.2) false true))] (.en [0, 2, 3, 4] [none, none, none, none] [] [.slice none 4 0 0 true, .undef, .undef, .undef]))) (.en [2, 3] [none, none] [] [])) (rx_osmosisref1_SessionsOf_L0 l r) = (((decide (s5.1 < (l.length : Int))) = true → (wP (.idxSlice 4 (.c (l_api_Sess l)) (.c (.int .i64 s5.1))) = some (.elem ((e_api_Sess x6) ++ F_api_Sess (l.drop (s5.1.toNat + 1)))) ∧ (Spec C 47 [(.ptr (some (0, 0))), (.agg (e_api_Sess x6))] [(some (.cells [(.acc 1 0 4 s5.2.length true)] false false)), (some (.cells (F_api_Sess s5.2) false true))] (.bool x7.1) [(some (.cells [(.acc 2 0 4 x7.2.length true)] false false)), none, (some (.cells (F_api_Sess x7.2) false true))] ∧ (2 ≤ 3 ∧ lfe (rx_osmosisref1_SessionsOf_L0 l) (.inl ((IntKind.i64.wrap (s5.1 + 1)), x7.2)) r)))) ∧ ((decide (s5.1 < (l.length : Int))) = false → lfe (rx_osmosisref1_SessionsOf_L0 l) (.inr s5.2) r)) := fun C => by kernel_rfl
  refine runS_of (fun _ _ h => by cases h) WB46_0_ok (Nat.le_of_ble_eq_true rfl) ((e _).mpr ?_)
  unfold osmosisref1_SessionsOf_L0_s at h
  refine ⟨fun hb => ?_, fun hb => ?_⟩
  · have h := cond_t hb h
    obtain ⟨q6, h⟩ := bget hx6 h
    refine ⟨wP_idx R_api_Sess q6, ?_⟩
    obtain ⟨q7, h⟩ := bget hx7 h
    refine ⟨s_osmosisref1_Sessions_Note_2 (d + 0) q7, ?_⟩
    refine ⟨by decide, ?_⟩
    exact lfe_of h
  · have h := cond_f hb h
    exact lfe_of h
theorem s_osmosisref1_SessionsOf_L0 (d : Nat) {l : List api_Sess} {s5 : Int × List api_Sess} {r : (List api_Sess)} (h : osmosisref1_SessionsOf_L0 l s5 = some r) : RunX (bloop (bexec (wcalls atab (d + 2)) KK 18 WB46_0) [0, 2, 3, 4] KK) 0 (inL [0, 2, 3, 4] (st_osmosisref1_SessionsOf_L0 l s5)) (fin_osmosisref1_SessionsOf_L0 l r) :=
  loop_of (st := st_osmosisref1_SessionsOf_L0 l) (fin := fin_osmosisref1_SessionsOf_L0 l) (step := osmosisref1_SessionsOf_L0_s l) (fun e => by (intro h; cases h)) (fun s x h => b_osmosisref1_SessionsOf_L0 d h) KK s5 r h

def osmosisref1_SessionsOf (l : List api_Sess) : Option (osmosisref1_Sessions) :=
  (osmosisref1_SessionsOf_L0 l (0, [])).bind fun (x8 : (List api_Sess)) => some (⟨x8⟩ : osmosisref1_Sessions)
def out_osmosisref1_SessionsOf (l : List api_Sess) (r : osmosisref1_Sessions) : AV × WH := ((.agg (e_osmosisref1_Sessions r)), [])

theorem s_osmosisref1_SessionsOf (d : Nat) {l : List api_Sess} {r : osmosisref1_Sessions} (h : osmosisref1_SessionsOf l = some r) : Spec (wcalls atab (d + 3)) 46 [(l_api_Sess l)] [] (out_osmosisref1_SessionsOf l r).1 (out_osmosisref1_SessionsOf l r).2 := by
  obtain ⟨x8, hx8⟩ := wx (osmosisref1_SessionsOf_L0 l (0, []))
  have e : ∀ C : ACalls, wBody C (fun _ => none) KK WF46 [(l_api_Sess l)] [] (.z 2 [.slice none 4 0 0 true] (.z 5 [.agg [.slice none 4 0 0 true]] (.z 3 [.slice none 4 0 0 true] (.st none (.lp [none, none, none, none] [(some true), (some true), (some true), (some true)] [.slice none 4 0 0 true, .undef, .undef, .undef] (.exit 0) [(2, (.ptr (some (0, 0)))), (3, (.ptr (some (1, 0))))] [(some (.cells [(.acc 2 0 4 0 true)] false false)), (some (.cells [(.acc 3 0 4 x8.length true)] false false)), (some (.cells (F_api_Sess []) false true)), (some (.cells (F_api_Sess x8) false true))] (.st none (.fin (some false) [.agg [.slice none 4 0 0 true]] none))))))) (out_osmosisref1_SessionsOf l r).1 (out_osmosisref1_SessionsOf l r).2 = (1 = 1 ∧ 1 ≤ 18 ∧ (RunS (bloop (bexec C KK 18 WB46_0) [0, 2, 3, 4] KK) 0 [(0, (l_api_Sess l)), (2, (.ptr (some (0, 0)))), (3, (.ptr (some (1, 0)))), (4, (.int .i64 0))] [(some (.cells [(.acc 2 0 4 0 true)] false false)), (some (.cells [(.acc 3 0 4 0 true)] false false)), (some (.cells (F_api_Sess []) false true)), (some (.cells (F_api_Sess []) false true))] (.exit 0) [(2, (.ptr (some (0, 0)))), (3, (.ptr (some (1, 0))))] [(some (.cells [(.acc 2 0 4 0 true)] false false)), (some (.cells [(.acc 3 0 4 x8.length true)] false false)), (some (.cells (F_api_Sess []) false true)), (some (.cells (F_api_Sess x8) false true))] ∧ lff (out_osmosisref1_SessionsOf l) (⟨x8⟩ : osmosisref1_Sessions) r)) := fun C => by kernel_rfl
  refine spec_of (fun _ _ h => by cases h) rfl atab_46 WF46_ok ((e _).mpr ⟨rfl, by decide, ?_⟩)
  unfold osmosisref1_SessionsOf at h
  obtain ⟨q8, h⟩ := bget hx8 h
  refine ⟨s_osmosisref1_SessionsOf_L0 (d + 0) q8, ?_⟩
  exact lff_of h

/- (*osmosis/osmosisref1.Sessions).Last -/
def st_osmosisref1_Sessions_Last_3_L0 (p_s : osmosisref1_Sessions) (client : Int) (s3 : Int) : List AV × WH := ([(.ptr (some (0, 0))), (.int .i64 client), (.ptr (some (1, 0))), (.int .i64 s3)], [(some (.cells (e_osmosisref1_Sessions p_s) false false)), (some (.cells (e_api_Sess (⟨(⟨0, 0, (⟨0, ([] : List UInt8)⟩ : api_Answer)⟩ : api_Sess).Client, (⟨0, 0, (⟨0, ([] : List UInt8)⟩ : api_Answer)⟩ : api_Sess).Seq, ((⟨0, 0, (⟨0, ([] : List UInt8)⟩ : api_Answer)⟩ : api_Sess).Answer)⟩ : api_Sess)) false false))])
def fin_osmosisref1_Sessions_Last_3_L0 (p_s : osmosisref1_Sessions) (client : Int) : api_Sess ⊕ Unit → Ex × Fast × WH := fun
  | .inl e => (.ret, [(4, (.ptr (some (1, 0)))), (5, (.bool true))], [(some (.cells (e_osmosisref1_Sessions p_s) false false)), (some (.cells (e_api_Sess e) false false))])
  | .inr e => ((.exit 0), [(4, (.ptr (some (1, 0))))], [(some (.cells (e_osmosisref1_Sessions p_s) false false)), (some (.cells (e_api_Sess (⟨(⟨(⟨0, 0, (⟨0, ([] : List UInt8)⟩ : api_Answer)⟩ : api_Sess).Client, (⟨0, 0, (⟨0, ([] : List UInt8)⟩ : api_Answer)⟩ : api_Sess).Seq, ((⟨0, 0, (⟨0, ([] : List UInt8)⟩ : api_Answer)⟩ : api_Sess).Answer)⟩ : api_Sess).Client, (⟨(⟨0, 0, (⟨0, ([] : List UInt8)⟩ : api_Answer)⟩ : api_Sess).Client, (⟨0, 0, (⟨0, ([] : List UInt8)⟩ : api_Answer)⟩ : api_Sess).Seq, ((⟨0, 0, (⟨0, ([] : List UInt8)⟩ : api_Answer)⟩ : api_Sess).Answer)⟩ : api_Sess).Seq, ((⟨(⟨0, 0, (⟨0, ([] : List UInt8)⟩ : api_Answer)⟩ : api_Sess).Client, (⟨0, 0, (⟨0, ([] : List UInt8)⟩ : api_Answer)⟩ : api_Sess).Seq, ((⟨0, 0, (⟨0, ([] : List UInt8)⟩ : api_Answer)⟩ : api_Sess).Answer)⟩ : api_Sess).Answer)⟩ : api_Sess)) false false))])
abbrev rx_osmosisref1_Sessions_Last_3_L0 (p_s : osmosisref1_Sessions) (client : Int) := roundX [0, 1, 4, 6] (st_osmosisref1_Sessions_Last_3_L0 p_s client) (fin_osmosisref1_Sessions_Last_3_L0 p_s client)
def osmosisref1_Sessions_Last_3_L0_s (p_s : osmosisref1_Sessions) (client : Int) (s3 : Int) : Option ((Int) ⊕ (api_Sess ⊕ Unit)) :=
  cond (decide (s3 < (p_s.L.length : Int))) ((getI p_s.L s3).bind fun (x4 : api_Sess) => cond (x4.Client == client) ((getI p_s.L s3).bind fun (x5 : api_Sess) => some (.inr (.inl x5))) (some (.inl (IntKind.i64.wrap (s3 + 1))))) (some (.inr (.inr ())))
def osmosisref1_Sessions_Last_3_L0 (p_s : osmosisref1_Sessions) (client : Int) (s3 : Int) : Option (api_Sess ⊕ Unit) := loopX (osmosisref1_Sessions_Last_3_L0_s p_s client) KK s3
theorem b_osmosisref1_Sessions_Last_3_L0 (d : Nat) {p_s : osmosisref1_Sessions} {client : Int} {s3 : Int} {r : (Int) ⊕ (api_Sess ⊕ Unit)} (h : osmosisref1_Sessions_Last_3_L0_s p_s client s3 = some r) : RunX (bexec (wcalls atab (d + 0)) KK 34 WB48_0) 1 (inL [0, 1, 4, 6] (st_osmosisref1_Sessions_Last_3_L0 p_s client s3)) (rx_osmosisref1_Sessions_Last_3_L0 p_s client r) := by
  obtain ⟨x4, hx4⟩ := wx (getI p_s.L s3)
  obtain ⟨x5, hx5⟩ := wx (getI p_s.L s3)
  have e : ∀ C : ACalls, wCode C (fun _ => none) KK 34 1 WB48_0 (inL [0, 1, 4, 6] (st_osmosisref1_Sessions_Last_3_L0 p_s client s3)).1 (inL [0, 1, 4, 6] (st_osmosisref1_Sessions_Last_3_L0 p_s client s3)).2 (.br 13 (.v 21 (.elem ((e_api_Sess x4) ++ F_api_Sess (p_s.L.drop (s3.toNat + 1)))) (.br 25 (.v 31 (.elem ((e_api_Sess x5) ++ F_api_Sess (p_s.L.drop (s3.toNat + 1)))) (.st none (.en [4, 5] [none, none] [] []))) (.en [0, 1, 4, 6] [none, none, none, none] [] []))) (.en [4] [none] [] [])) (rx_osmosisref1_Sessions_Last_3_L0 p_s client r) = (((decide (s3 < (p_s.L.length : Int))) = true → (wP (.idxSlice 4 (.c (l_api_Sess p_s.L)) (.c (.int .i64 s3))) = some (.elem ((e_api_Sess x4) ++ F_api_Sess (p_s.L.drop (s3.toNat + 1)))) ∧ (((x4.Client == client) = true → (wP (.idxSlice 4 (.c (l_api_Sess p_s.L)) (.c (.int .i64 s3))) = some (.elem ((e_api_Sess x5) ++ F_api_Sess (p_s.L.drop (s3.toNat + 1)))) ∧ lfe (rx_osmosisref1_Sessions_Last_3_L0 p_s client) (.inr (.inl x5)) r)) ∧ ((x4.Client == client) = false → lfe (rx_osmosisref1_Sessions_Last_3_L0 p_s client) (.inl (IntKind.i64.wrap (s3 + 1))) r)))) ∧ ((decide (s3 < (p_s.L.length : Int))) = false → ((.exit 0) = (rx_osmosisref1_Sessions_Last_3_L0 p_s client r).1 ∧ [(4, (.ptr (some (1, 0))))] = (rx_osmosisref1_Sessions_Last_3_L0 p_s client r).2.1 ∧ [(some (.cells (e_osmosisref1_Sessions p_s) false false)), (some (.cells (e_api_Sess (⟨(⟨0, 0, (⟨0, ([] : List UInt8)⟩ : api_Answer)⟩ : api_Sess).Client, (⟨0, 0, (⟨0, ([] : List UInt8)⟩ : api_Answer)⟩ : api_Sess).Seq, ((⟨0, 0, (⟨0, ([] : List UInt8)⟩ : api_Answer)⟩ : api_Sess).Answer)⟩ : api_Sess)) false false))] = (rx_osmosisref1_Sessions_Last_3_L0 p_s client r).2.2))) := fun C => by kernel_rfl
  refine runS_of (fun _ _ h => by cases h) WB48_0_ok (Nat.le_of_ble_eq_true rfl) ((e _).mpr ?_)
  unfold osmosisref1_Sessions_Last_3_L0_s at h
  refine ⟨fun hb => ?_, fun hb => ?_⟩
  · have h := cond_t hb h
    obtain ⟨q4, h⟩ := bget hx4 h
    refine ⟨wP_idx R_api_Sess q4, ?_⟩
    refine ⟨fun hb => ?_, fun hb => ?_⟩
    · have h := cond_t hb h
      obtain ⟨q5, h⟩ := bget hx5 h
      refine ⟨wP_idx R_api_Sess q5, ?_⟩
      exact lfe_of h
    · have h := cond_f hb h
      exact lfe_of h
  · have h := cond_f hb h
    obtain rfl := Option.some.inj h
    refine ⟨rfl, ?_, ?_⟩ <;> first | rfl | (simp only [rx_osmosisref1_Sessions_Last_3_L0, roundX, zipKeep, fin_osmosisref1_Sessions_Last_3_L0, st_osmosisref1_Sessions_Last_3_L0, List.length_set, List.length_append, List.length_replicate, List.length_cons, List.length_nil, Nat.add_zero, Nat.zero_add]; done) | simp [rx_osmosisref1_Sessions_Last_3_L0, roundX, zipKeep, fin_osmosisref1_Sessions_Last_3_L0, st_osmosisref1_Sessions_Last_3_L0]
theorem s_osmosisref1_Sessions_Last_3_L0 (d : Nat) {p_s : osmosisref1_Sessions} {client : Int} {s3 : Int} {r : api_Sess ⊕ Unit} (h : osmosisref1_Sessions_Last_3_L0 p_s client s3 = some r) : RunX (bloop (bexec (wcalls atab (d + 0)) KK 34 WB48_0) [0, 1, 4, 6] KK) 1 (inL [0, 1, 4, 6] (st_osmosisref1_Sessions_Last_3_L0 p_s client s3)) (fin_osmosisref1_Sessions_Last_3_L0 p_s client r) :=
  loop_of (st := st_osmosisref1_Sessions_Last_3_L0 p_s client) (fin := fin_osmosisref1_Sessions_Last_3_L0 p_s client) (step := osmosisref1_Sessions_Last_3_L0_s p_s client) (fun e => by rcases e with e | e <;> (intro h; cases h)) (fun s x h => b_osmosisref1_Sessions_Last_3_L0 d h) KK s3 r h

def osmosisref1_Sessions_Last_3 (client : Int) (p_s : osmosisref1_Sessions) : Option (api_Sess × Bool) :=
  (osmosisref1_Sessions_Last_3_L0 p_s client 0).bind fun (x6 : api_Sess ⊕ Unit) => cond (isL x6) (some ((⟨(getL x6).Client, (getL x6).Seq, ((getL x6).Answer)⟩ : api_Sess), true)) (some ((⟨0, 0, (⟨0, ([] : List UInt8)⟩ : api_Answer)⟩ : api_Sess), false))
def out_osmosisref1_Sessions_Last_3 (client : Int) (p_s : osmosisref1_Sessions) (r : api_Sess × Bool) : AV × WH := ((.tuple [(.agg (e_api_Sess r.1)), (.bool r.2)]), [(some (.cells (e_osmosisref1_Sessions p_s) false false))])

theorem s_osmosisref1_Sessions_Last_3 (d : Nat) {client : Int} {p_s : osmosisref1_Sessions} {r : api_Sess × Bool} (h : osmosisref1_Sessions_Last_3 client p_s = some r) : Spec (wcalls atab (d + 1)) 48 [(.ptr (some (0, 0))), (.int .i64 client)] [(some (.cells (e_osmosisref1_Sessions p_s) false false))] (out_osmosisref1_Sessions_Last_3 client p_s r).1 (out_osmosisref1_Sessions_Last_3 client p_s r).2 := by
  obtain ⟨x6, hx6⟩ := wx (osmosisref1_Sessions_Last_3_L0 p_s client 0)
  have e : ∀ C : ACalls, wBody C (fun _ => none) KK WF48 [(.ptr (some (0, 0))), (.int .i64 client)] [(some (.cells (e_osmosisref1_Sessions p_s) false false))] (.ite (isL x6) (.lp [none, none, none, none] [] [] .ret [(4, (.ptr (some (1, 0)))), (5, (.bool true))] [(some (.cells (e_osmosisref1_Sessions p_s) false false)), (some (.cells (e_api_Sess (⟨(getL x6).Client, (getL x6).Seq, ((getL x6).Answer)⟩ : api_Sess)) false false))] (.fin (some false) [] none)) (.lp [none, none, none, none] [] [] (.exit 0) [(4, (.ptr (some (1, 0))))] [(some (.cells (e_osmosisref1_Sessions p_s) false false)), (some (.cells (e_api_Sess (⟨(⟨(⟨0, 0, (⟨0, ([] : List UInt8)⟩ : api_Answer)⟩ : api_Sess).Client, (⟨0, 0, (⟨0, ([] : List UInt8)⟩ : api_Answer)⟩ : api_Sess).Seq, ((⟨0, 0, (⟨0, ([] : List UInt8)⟩ : api_Answer)⟩ : api_Sess).Answer)⟩ : api_Sess).Client, (⟨(⟨0, 0, (⟨0, ([] : List UInt8)⟩ : api_Answer)⟩ : api_Sess).Client, (⟨0, 0, (⟨0, ([] : List UInt8)⟩ : api_Answer)⟩ : api_Sess).Seq, ((⟨0, 0, (⟨0, ([] : List UInt8)⟩ : api_Answer)⟩ : api_Sess).Answer)⟩ : api_Sess).Seq, ((⟨(⟨0, 0, (⟨0, ([] : List UInt8)⟩ : api_Answer)⟩ : api_Sess).Client, (⟨0, 0, (⟨0, ([] : List UInt8)⟩ : api_Answer)⟩ : api_Sess).Seq, ((⟨0, 0, (⟨0, ([] : List UInt8)⟩ : api_Answer)⟩ : api_Sess).Answer)⟩ : api_Sess).Answer)⟩ : api_Sess)) false false))] (.st none (.fin (some false) [] none)))) (out_osmosisref1_Sessions_Last_3 client p_s r).1 (out_osmosisref1_Sessions_Last_3 client p_s r).2 = (2 = 2 ∧ 2 ≤ 34 ∧ (((isL x6) = true → (RunS (bloop (bexec C KK 34 WB48_0) [0, 1, 4, 6] KK) 1 [(0, (.ptr (some (0, 0)))), (1, (.int .i64 client)), (4, (.ptr (some (1, 0)))), (6, (.int .i64 0))] [(some (.cells (e_osmosisref1_Sessions p_s) false false)), (some (.cells (e_api_Sess (⟨0, 0, (⟨0, ([] : List UInt8)⟩ : api_Answer)⟩ : api_Sess)) false false))] .ret [(4, (.ptr (some (1, 0)))), (5, (.bool true))] [(some (.cells (e_osmosisref1_Sessions p_s) false false)), (some (.cells (e_api_Sess (⟨(getL x6).Client, (getL x6).Seq, ((getL x6).Answer)⟩ : api_Sess)) false false))] ∧ (@Eq AV (.tuple [(.agg (e_api_Sess (⟨(getL x6).Client, (getL x6).Seq, ((getL x6).Answer)⟩ : api_Sess))), (.bool true)]) (out_osmosisref1_Sessions_Last_3 client p_s r).1 ∧ @Eq WH [(some (.cells (e_osmosisref1_Sessions p_s) false false))] (out_osmosisref1_Sessions_Last_3 client p_s r).2))) ∧ ((isL x6) = false → (RunS (bloop (bexec C KK 34 WB48_0) [0, 1, 4, 6] KK) 1 [(0, (.ptr (some (0, 0)))), (1, (.int .i64 client)), (4, (.ptr (some (1, 0)))), (6, (.int .i64 0))] [(some (.cells (e_osmosisref1_Sessions p_s) false false)), (some (.cells (e_api_Sess (⟨0, 0, (⟨0, ([] : List UInt8)⟩ : api_Answer)⟩ : api_Sess)) false false))] (.exit 0) [(4, (.ptr (some (1, 0))))] [(some (.cells (e_osmosisref1_Sessions p_s) false false)), (some (.cells (e_api_Sess (⟨(⟨(⟨0, 0, (⟨0, ([] : List UInt8)⟩ : api_Answer)⟩ : api_Sess).Client, (⟨0, 0, (⟨0, ([] : List UInt8)⟩ : api_Answer)⟩ : api_Sess).Seq, ((⟨0, 0, (⟨0, ([] : List UInt8)⟩ : api_Answer)⟩ : api_Sess).Answer)⟩ : api_Sess).Client, (⟨(⟨0, 0, (⟨0, ([] : List UInt8)⟩ : api_Answer)⟩ : api_Sess).Client, (⟨0, 0, (⟨0, ([] : List UInt8)⟩ : api_Answer)⟩ : api_Sess).Seq, ((⟨0, 0, (⟨0, ([] : List UInt8)⟩ : api_Answer)⟩ : api_Sess).Answer)⟩ : api_Sess).Seq, ((⟨(⟨0, 0, (⟨0, ([] : List UInt8)⟩ : api_Answer)⟩ : api_Sess).Client, (⟨0, 0, (⟨0, ([] : List UInt8)⟩ : api_Answer)⟩ : api_Sess).Seq, ((⟨0, 0, (⟨0, ([] : List UInt8)⟩ : api_Answer)⟩ : api_Sess).Answer)⟩ : api_Sess).Answer)⟩ : api_Sess)) false false))] ∧ (@Eq AV (.tuple [(.agg (e_api_Sess (⟨0, 0, (⟨0, ([] : List UInt8)⟩ : api_Answer)⟩ : api_Sess))), (.bool false)]) (out_osmosisref1_Sessions_Last_3 client p_s r).1 ∧ @Eq WH [(some (.cells (e_osmosisref1_Sessions p_s) false false))] (out_osmosisref1_Sessions_Last_3 client p_s r).2))))) := fun C => by kernel_rfl
  refine spec_of (fun _ _ h => by cases h) rfl atab_48 WF48_ok ((e _).mpr ⟨rfl, by decide, ?_⟩)
  unfold osmosisref1_Sessions_Last_3 at h
  obtain ⟨q6, h⟩ := bget hx6 h
  refine ⟨fun hb7 => ?_, fun hb7 => ?_⟩
  · have h := cond_t hb7 h
    refine ⟨by have h := s_osmosisref1_Sessions_Last_3_L0 (d + 0) q6; rw [isL_t hb7] at h; exact h, ?_⟩
    obtain rfl := Option.some.inj h
    refine ⟨?_, ?_⟩ <;> first | rfl | (simp only [out_osmosisref1_Sessions_Last_3, List.length_set, List.length_append, List.length_replicate, List.length_cons, List.length_nil, List.length_take, List.length_drop, Nat.add_zero, Nat.zero_add]; done) | simp [out_osmosisref1_Sessions_Last_3]
  · have h := cond_f hb7 h
    refine ⟨by have h := s_osmosisref1_Sessions_Last_3_L0 (d + 0) q6; rw [isL_f hb7] at h; exact h, ?_⟩
    obtain rfl := Option.some.inj h
    refine ⟨?_, ?_⟩ <;> first | rfl | (simp only [out_osmosisref1_Sessions_Last_3, List.length_set, List.length_append, List.length_replicate, List.length_cons, List.length_nil, List.length_take, List.length_drop, Nat.add_zero, Nat.zero_add]; done) | simp [out_osmosisref1_Sessions_Last_3]

end Go.Proofs.Yteibgagdnidojaa
