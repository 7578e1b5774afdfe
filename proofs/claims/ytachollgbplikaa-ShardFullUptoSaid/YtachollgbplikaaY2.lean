/- Functions as Lean functions, part 2. -/
import Derived.Test.YtachollgbplikaaXt
import Derived.Test.YtachollgbplikaaXs
import Derived.Test.YtachollgbplikaaY1
set_option linter.all false
set_option maxRecDepth 100000
namespace Go.Proofs.Ytachollgbplikaa
/- (*osmosis/session.Sessions).Last -/
abbrev in_session_Sessions_Last_J0 (client : Int) (p_s : shard_Shard) : Fast × WH := ([(0, (.ptr (some (0, 1)))), (1, (.int .i64 client)), (4, (.ptr (some (1, 0))))], [(some (.cells (e_shard_Shard p_s) false false)), (some (.cells (e_api_Sess (⟨0, 0, (⟨0, ([] : List UInt8)⟩ : api_Answer)⟩ : api_Sess)) false false))])
def fin_session_Sessions_Last_J0 (client : Int) (p_s : shard_Shard) : Unit ⊕ Unit → Ex × Fast × WH := fun
  | .inl e => (.ret, [(4, (.ptr (some (1, 0)))), (5, (.bool false))], [(some (.cells (e_shard_Shard p_s) false false)), (some (.cells (e_api_Sess (⟨0, 0, (⟨0, ([] : List UInt8)⟩ : api_Answer)⟩ : api_Sess)) false false))])
  | .inr e => (.normal, [(0, (.ptr (some (0, 1)))), (1, (.int .i64 client)), (4, (.ptr (some (1, 0))))], [(some (.cells (e_shard_Shard p_s) false false)), (some (.cells (e_api_Sess (⟨0, 0, (⟨0, ([] : List UInt8)⟩ : api_Answer)⟩ : api_Sess)) false false))])
def session_Sessions_Last_J0 (client : Int) (p_s : shard_Shard) : Option (Unit ⊕ Unit) :=
  cond (decide (client < 0)) (some (.inl ())) (cond (decide (client ≥ 4)) (some (.inl ())) ((getI (p_s.Sessions.l.toL) client).bind fun (x1 : api_Sess) => cond (x1.Seq == 0) (some (.inl ())) (some (.inr ()))))
theorem s_session_Sessions_Last_J0 (d : Nat) {client : Int} {p_s : shard_Shard} {r : Unit ⊕ Unit} (h : session_Sessions_Last_J0 client p_s = some r) : RunX (bexec (wcalls atab (d + 0)) KK 29 WJ72_ba) 1 (in_session_Sessions_Last_J0 client p_s) (fin_session_Sessions_Last_J0 client p_s r) := by
  obtain ⟨x1, hx1⟩ := wx (getI (p_s.Sessions.l.toL) client)
  have e : ∀ C : ACalls, wCode C (fun _ => none) KK 29 1 WJ72_ba (in_session_Sessions_Last_J0 client p_s).1 (in_session_Sessions_Last_J0 client p_s).2 (.br 8 (.st none (.en [4, 5] [none, none] [] [])) (.br 12 (.st none (.en [4, 5] [none, none] [] [])) (.v 17 (.ptr (some (0, 1 + client.toNat * 4))) (.v 19 (.int .i64 x1.Seq) (.br 21 (.st none (.en [4, 5] [none, none] [] [])) (.en [0, 1, 4] [none, none, none] [] [])))))) (fin_session_Sessions_Last_J0 client p_s r) = (((decide (client < 0)) = true → lfe (fin_session_Sessions_Last_J0 client p_s) (.inl ()) r) ∧ ((decide (client < 0)) = false → (((decide (client ≥ 4)) = true → lfe (fin_session_Sessions_Last_J0 client p_s) (.inl ()) r) ∧ ((decide (client ≥ 4)) = false → (wP (.idxArr 4 4 (.c (.ptr (some (0, 1)))) (.c (.int .i64 client))) = some (.ptr (some (0, 1 + client.toNat * 4))) ∧ (cPart false (1 + client.toNat * 4 + 1) 1 (e_shard_Shard p_s) = some (.int .i64 x1.Seq) ∧ (((x1.Seq == 0) = true → lfe (fin_session_Sessions_Last_J0 client p_s) (.inl ()) r) ∧ ((x1.Seq == 0) = false → lfe (fin_session_Sessions_Last_J0 client p_s) (.inr ()) r)))))))) := fun C => by kernel_rfl
  refine runS_of (fun _ _ h => by cases h) WJ72_ba_ok (Nat.le_of_ble_eq_true rfl) ((e _).mpr ?_)
  unfold session_Sessions_Last_J0 at h
  refine ⟨fun hb => ?_, fun hb => ?_⟩
  · have h := cond_t hb h
    exact lfe_of h
  · have h := cond_f hb h
    refine ⟨fun hb => ?_, fun hb => ?_⟩
    · have h := cond_t hb h
      exact lfe_of h
    · have h := cond_f hb h
      obtain ⟨q1, h⟩ := bget hx1 h
      refine ⟨wP_arr q1 rfl, ?_⟩
      refine ⟨cP_arr (p := 1) (o := 1) R_api_Sess q1 rfl rfl, ?_⟩
      refine ⟨fun hb => ?_, fun hb => ?_⟩
      · have h := cond_t hb h
        exact lfe_of h
      · have h := cond_f hb h
        exact lfe_of h

def session_Sessions_Last (client : Int) (p_s : shard_Shard) : Option (api_Sess × Bool) :=
  (session_Sessions_Last_J0 client p_s).bind fun (x2 : Unit ⊕ Unit) => cond (isL x2) (some ((⟨0, 0, (⟨0, ([] : List UInt8)⟩ : api_Answer)⟩ : api_Sess), false)) ((getI (p_s.Sessions.l.toL) client).bind fun (x4 : api_Sess) => some (x4, true))
def out_session_Sessions_Last (client : Int) (p_s : shard_Shard) (r : api_Sess × Bool) : AV × WH := ((.tuple [(.agg (e_api_Sess r.1)), (.bool r.2)]), [(some (.cells (e_shard_Shard p_s) false false))])

theorem s_session_Sessions_Last (d : Nat) {client : Int} {p_s : shard_Shard} {r : api_Sess × Bool} (h : session_Sessions_Last client p_s = some r) : Spec (wcalls atab (d + 1)) 72 [(.ptr (some (0, 1))), (.int .i64 client)] [(some (.cells (e_shard_Shard p_s) false false))] (out_session_Sessions_Last client p_s r).1 (out_session_Sessions_Last client p_s r).2 := by
  obtain ⟨x2, hx2⟩ := wx (session_Sessions_Last_J0 client p_s)
  obtain ⟨x4, hx4⟩ := wx (getI (p_s.Sessions.l.toL) client)
  have e : ∀ C : ACalls, wBody C (fun _ => none) KK WF72 [(.ptr (some (0, 1))), (.int .i64 client)] [(some (.cells (e_shard_Shard p_s) false false))] (.sk (.ite (isL x2) (.jn [0, 1, 4] [none, none, none] [] [] .ret [(4, (.ptr (some (1, 0)))), (5, (.bool false))] [(some (.cells (e_shard_Shard p_s) false false)), (some (.cells (e_api_Sess (⟨0, 0, (⟨0, ([] : List UInt8)⟩ : api_Answer)⟩ : api_Sess)) false false))] (.fin (some false) [] none)) (.jn [0, 1, 4] [none, none, none] [] [] .normal [(0, (.ptr (some (0, 1)))), (1, (.int .i64 client)), (4, (.ptr (some (1, 0))))] [(some (.cells (e_shard_Shard p_s) false false)), (some (.cells (e_api_Sess (⟨0, 0, (⟨0, ([] : List UInt8)⟩ : api_Answer)⟩ : api_Sess)) false false))] (.v 27 (.ptr (some (0, 1 + client.toNat * 4))) (.v 28 (.agg (e_api_Sess x4)) (.st none (.fin (some false) [] none))))))) (out_session_Sessions_Last client p_s r).1 (out_session_Sessions_Last client p_s r).2 = (2 = 2 ∧ 2 ≤ 29 ∧ (((isL x2) = true → (RunS (bexec C KK 29 WJ72_ba) 1 [(0, (.ptr (some (0, 1)))), (1, (.int .i64 client)), (4, (.ptr (some (1, 0))))] [(some (.cells (e_shard_Shard p_s) false false)), (some (.cells (e_api_Sess (⟨0, 0, (⟨0, ([] : List UInt8)⟩ : api_Answer)⟩ : api_Sess)) false false))] .ret [(4, (.ptr (some (1, 0)))), (5, (.bool false))] [(some (.cells (e_shard_Shard p_s) false false)), (some (.cells (e_api_Sess (⟨0, 0, (⟨0, ([] : List UInt8)⟩ : api_Answer)⟩ : api_Sess)) false false))] ∧ lff (out_session_Sessions_Last client p_s) ((⟨0, 0, (⟨0, ([] : List UInt8)⟩ : api_Answer)⟩ : api_Sess), false) r)) ∧ ((isL x2) = false → (RunS (bexec C KK 29 WJ72_ba) 1 [(0, (.ptr (some (0, 1)))), (1, (.int .i64 client)), (4, (.ptr (some (1, 0))))] [(some (.cells (e_shard_Shard p_s) false false)), (some (.cells (e_api_Sess (⟨0, 0, (⟨0, ([] : List UInt8)⟩ : api_Answer)⟩ : api_Sess)) false false))] .normal [(0, (.ptr (some (0, 1)))), (1, (.int .i64 client)), (4, (.ptr (some (1, 0))))] [(some (.cells (e_shard_Shard p_s) false false)), (some (.cells (e_api_Sess (⟨0, 0, (⟨0, ([] : List UInt8)⟩ : api_Answer)⟩ : api_Sess)) false false))] ∧ (wP (.idxArr 4 4 (.c (.ptr (some (0, 1)))) (.c (.int .i64 client))) = some (.ptr (some (0, 1 + client.toNat * 4))) ∧ (cPart true (1 + client.toNat * 4) 4 (e_shard_Shard p_s) = some (.agg (e_api_Sess x4)) ∧ lff (out_session_Sessions_Last client p_s) (x4, true) r)))))) := fun C => by kernel_rfl
  refine spec_of (fun _ _ h => by cases h) rfl atab_72 WF72_ok ((e _).mpr ⟨rfl, by decide, ?_⟩)
  unfold session_Sessions_Last at h
  obtain ⟨q2, h⟩ := bget hx2 h
  refine ⟨fun hb3 => ?_, fun hb3 => ?_⟩
  · have h := cond_t hb3 h
    refine ⟨by have h := s_session_Sessions_Last_J0 (d + 0) q2; rw [isL_t hb3] at h; exact h, ?_⟩
    exact lff_of h
  · have h := cond_f hb3 h
    refine ⟨by have h := s_session_Sessions_Last_J0 (d + 0) q2; rw [isL_f hb3] at h; exact h, ?_⟩
    obtain ⟨q4, h⟩ := bget hx4 h
    refine ⟨wP_arr q4 rfl, ?_⟩
    refine ⟨cP_arr (p := 1) (o := 0) R_api_Sess q4 rfl rfl, ?_⟩
    exact lff_of h

/- (*osmosis/table.Table).find -/
def table_Table_find_4 (key : List UInt8) (t : shard_Shard) : Option (Int × Bool) :=
  (slices_BinarySearchFunc_api_Pair_api_Pair_string t.Table.l key).bind fun (x1 : Int × Bool) => some (x1.1, x1.2)
def out_table_Table_find_4 (key : List UInt8) (t : shard_Shard) (r : Int × Bool) : AV × WH := ((.tuple [(.int .i64 r.1), (.bool r.2)]), [(some (.cells (e_shard_Shard t) false false))])

theorem s_table_Table_find_4 (d : Nat) {key : List UInt8} {t : shard_Shard} {r : Int × Bool} (h : table_Table_find_4 key t = some r) : Spec (wcalls atab (d + 5)) 96 [(.ptr (some (0, 0))), (.str key)] [(some (.cells (e_shard_Shard t) false false))] (out_table_Table_find_4 key t r).1 (out_table_Table_find_4 key t r).2 := by
  obtain ⟨x1, hx1⟩ := wx (slices_BinarySearchFunc_api_Pair_api_Pair_string t.Table.l key)
  have e : ∀ C : ACalls, wBody C (fun _ => none) KK WF96 [(.ptr (some (0, 0))), (.str key)] [(some (.cells (e_shard_Shard t) false false))] (.cb [] [.slice none 2 0 0 true] (.tuple [(.int .i64 x1.1), (.bool x1.2)]) (.fin (some false) [] none)) (out_table_Table_find_4 key t r).1 (out_table_Table_find_4 key t r).2 = (2 = 2 ∧ 2 ≤ 14 ∧ (Spec C 126 [(l_api_Pair t.Table.l), (.str key), (.func 127 [])] [] (.tuple [(.int .i64 x1.1), (.bool x1.2)]) [] ∧ lff (out_table_Table_find_4 key t) (x1.1, x1.2) r)) := fun C => by kernel_rfl
  refine spec_of (fun _ _ h => by cases h) rfl atab_96 WF96_ok ((e _).mpr ⟨rfl, by decide, ?_⟩)
  unfold table_Table_find_4 at h
  obtain ⟨q1, h⟩ := bget hx1 h
  refine ⟨s_slices_BinarySearchFunc_api_Pair_api_Pair_string (d + 0) q1, ?_⟩
  exact lff_of h

/- (*osmosis/table.Table).set -/
def table_Table_set_4 (k : Int) (value : List UInt8) (t : shard_Shard) : Option (Int × Int × Int × List UInt8 × Int × Int × Int × List UInt8 × Int × Int × Int × List UInt8 × Int × Int × Int × List UInt8 × Int × Int × List api_Pair) :=
  gd (fitsB 32 t.Table.l.length) ((getI t.Table.l k).bind fun (x2 : api_Pair) => some (t.Sessions.l.a0.Client, t.Sessions.l.a0.Seq, t.Sessions.l.a0.Answer.Why, t.Sessions.l.a0.Answer.Value, t.Sessions.l.a1.Client, t.Sessions.l.a1.Seq, t.Sessions.l.a1.Answer.Why, t.Sessions.l.a1.Answer.Value, t.Sessions.l.a2.Client, t.Sessions.l.a2.Seq, t.Sessions.l.a2.Answer.Why, t.Sessions.l.a2.Answer.Value, t.Sessions.l.a3.Client, t.Sessions.l.a3.Seq, t.Sessions.l.a3.Answer.Why, t.Sessions.l.a3.Answer.Value, t.ID, t.Epoch, (t.Table.l.set k.toNat (⟨x2.Key, value⟩ : api_Pair))))
def out_table_Table_set_4 (k : Int) (value : List UInt8) (t : shard_Shard) (r : Int × Int × Int × List UInt8 × Int × Int × Int × List UInt8 × Int × Int × Int × List UInt8 × Int × Int × Int × List UInt8 × Int × Int × List api_Pair) : AV × WH := ((.tuple []), [(some (.cells [(.acc 1 0 2 r.2.2.2.2.2.2.2.2.2.2.2.2.2.2.2.2.2.2.length true), (.int .i64 r.1), (.int .i64 r.2.1), (.int .i64 r.2.2.1), (.str r.2.2.2.1), (.int .i64 r.2.2.2.2.1), (.int .i64 r.2.2.2.2.2.1), (.int .i64 r.2.2.2.2.2.2.1), (.str r.2.2.2.2.2.2.2.1), (.int .i64 r.2.2.2.2.2.2.2.2.1), (.int .i64 r.2.2.2.2.2.2.2.2.2.1), (.int .i64 r.2.2.2.2.2.2.2.2.2.2.1), (.str r.2.2.2.2.2.2.2.2.2.2.2.1), (.int .i64 r.2.2.2.2.2.2.2.2.2.2.2.2.1), (.int .i64 r.2.2.2.2.2.2.2.2.2.2.2.2.2.1), (.int .i64 r.2.2.2.2.2.2.2.2.2.2.2.2.2.2.1), (.str r.2.2.2.2.2.2.2.2.2.2.2.2.2.2.2.1), (.int .i64 r.2.2.2.2.2.2.2.2.2.2.2.2.2.2.2.2.1), (.int .i64 r.2.2.2.2.2.2.2.2.2.2.2.2.2.2.2.2.2.1)] false false)), (some (.cells (F_api_Pair r.2.2.2.2.2.2.2.2.2.2.2.2.2.2.2.2.2.2) false true))])

theorem s_table_Table_set_4 (d : Nat) {k : Int} {value : List UInt8} {t : shard_Shard} {r : Int × Int × Int × List UInt8 × Int × Int × Int × List UInt8 × Int × Int × Int × List UInt8 × Int × Int × Int × List UInt8 × Int × Int × List api_Pair} (h : table_Table_set_4 k value t = some r) : Spec (wcalls atab (d + 2)) 129 [(.ptr (some (0, 0))), (.int .i64 k), (.str value)] [(some (.cells (e_shard_Shard t) false false))] (out_table_Table_set_4 k value t r).1 (out_table_Table_set_4 k value t r).2 := by
  obtain ⟨x2, hx2⟩ := wx (getI t.Table.l k)
  have e : ∀ C : ACalls, wBody C wB KK WF129 [(.ptr (some (0, 0))), (.int .i64 k), (.str value)] [(some (.cells (e_shard_Shard t) false false))] (.st none (.v 20 (.ptr (some (1, 0 + k.toNat * 2))) (.st (some (F_api_Pair (t.Table.l.set k.toNat (⟨x2.Key, value⟩ : api_Pair)))) (.fin (some false) [] none)))) (out_table_Table_set_4 k value t r).1 (out_table_Table_set_4 k value t r).2 = (3 = 3 ∧ 3 ≤ 22 ∧ (fitsB 32 t.Table.l.length = true ∧ (wP (.idxSlice 2 (.c (.acc 1 0 2 t.Table.l.length true)) (.c (.int .i64 k))) = some (.ptr (some (1, 0 + k.toNat * 2))) ∧ (wrC (F_api_Pair t.Table.l) (0 + k.toNat * 2 + 1) [(.str value)] = some (F_api_Pair (t.Table.l.set k.toNat (⟨x2.Key, value⟩ : api_Pair))) ∧ (@Eq AV (.tuple []) (out_table_Table_set_4 k value t r).1 ∧ @Eq WH [(some (.cells [(.acc 1 0 2 t.Table.l.length true), (.int .i64 t.Sessions.l.a0.Client), (.int .i64 t.Sessions.l.a0.Seq), (.int .i64 t.Sessions.l.a0.Answer.Why), (.str t.Sessions.l.a0.Answer.Value), (.int .i64 t.Sessions.l.a1.Client), (.int .i64 t.Sessions.l.a1.Seq), (.int .i64 t.Sessions.l.a1.Answer.Why), (.str t.Sessions.l.a1.Answer.Value), (.int .i64 t.Sessions.l.a2.Client), (.int .i64 t.Sessions.l.a2.Seq), (.int .i64 t.Sessions.l.a2.Answer.Why), (.str t.Sessions.l.a2.Answer.Value), (.int .i64 t.Sessions.l.a3.Client), (.int .i64 t.Sessions.l.a3.Seq), (.int .i64 t.Sessions.l.a3.Answer.Why), (.str t.Sessions.l.a3.Answer.Value), (.int .i64 t.ID), (.int .i64 t.Epoch)] false false)), (some (.cells (F_api_Pair (t.Table.l.set k.toNat (⟨x2.Key, value⟩ : api_Pair))) false true))] (out_table_Table_set_4 k value t r).2))))) := fun C => by kernel_rfl
  refine spec_of (wB_ok _) rfl atab_129 WF129_ok ((e _).mpr ⟨rfl, by decide, ?_⟩)
  unfold table_Table_set_4 at h
  obtain ⟨q1, h⟩ := gd_some h
  refine ⟨q1, ?_⟩
  obtain ⟨q2, h⟩ := bget hx2 h
  refine ⟨wP_idxA R_api_Pair q2, ?_⟩
  refine ⟨wr_row (o := 1) R_api_Pair q2 rfl, ?_⟩
  try rw [show AV.list 2 t.Table.l.length (F_api_Pair (t.Table.l.set k.toNat (⟨x2.Key, value⟩ : api_Pair))) false = l_api_Pair (t.Table.l.set k.toNat (⟨x2.Key, value⟩ : api_Pair)) from by simp only [l_api_Pair, List.length_set]]
  obtain rfl := Option.some.inj h
  refine ⟨?_, ?_⟩ <;> first | rfl | (simp only [out_table_Table_set_4, List.length_set, List.length_append, List.length_replicate, List.length_cons, List.length_nil, List.length_take, List.length_drop, Nat.add_zero, Nat.zero_add]; done) | simp [out_table_Table_set_4]

/- (*osmosis/table.Table).put -/
def table_Table_put_4 (o : api_Op) (k : Int) (had : Bool) (t : shard_Shard) : Option (api_Answer × shard_Shard) :=
  cond had ((table_Table_set_4 k o.Value t).bind fun (x1 : Int × Int × Int × List UInt8 × Int × Int × Int × List UInt8 × Int × Int × Int × List UInt8 × Int × Int × Int × List UInt8 × Int × Int × List api_Pair) => some ((⟨0, ([] : List UInt8)⟩ : api_Answer), (⟨(⟨x1.2.2.2.2.2.2.2.2.2.2.2.2.2.2.2.2.2.2⟩ : table_Table), (⟨(⟨(⟨x1.1, x1.2.1, (⟨x1.2.2.1, x1.2.2.2.1⟩ : api_Answer)⟩ : api_Sess), (⟨x1.2.2.2.2.1, x1.2.2.2.2.2.1, (⟨x1.2.2.2.2.2.2.1, x1.2.2.2.2.2.2.2.1⟩ : api_Answer)⟩ : api_Sess), (⟨x1.2.2.2.2.2.2.2.2.1, x1.2.2.2.2.2.2.2.2.2.1, (⟨x1.2.2.2.2.2.2.2.2.2.2.1, x1.2.2.2.2.2.2.2.2.2.2.2.1⟩ : api_Answer)⟩ : api_Sess), (⟨x1.2.2.2.2.2.2.2.2.2.2.2.2.1, x1.2.2.2.2.2.2.2.2.2.2.2.2.2.1, (⟨x1.2.2.2.2.2.2.2.2.2.2.2.2.2.2.1, x1.2.2.2.2.2.2.2.2.2.2.2.2.2.2.2.1⟩ : api_Answer)⟩ : api_Sess)⟩ : A4 api_Sess)⟩ : session_Sessions), x1.2.2.2.2.2.2.2.2.2.2.2.2.2.2.2.2.1, x1.2.2.2.2.2.2.2.2.2.2.2.2.2.2.2.2.2.1⟩ : shard_Shard))) (cond ((t.Table.l.length : Int) == 8) (some ((⟨5, ([] : List UInt8)⟩ : api_Answer), t)) (gd (fitsB 32 t.Table.l.length) (gd (insB 32 k t.Table.l.length) (some ((⟨0, ([] : List UInt8)⟩ : api_Answer), (⟨(⟨(insL t.Table.l k (⟨o.Key, o.Value⟩ : api_Pair))⟩ : table_Table), t.Sessions, t.ID, t.Epoch⟩ : shard_Shard))))))
def out_table_Table_put_4 (o : api_Op) (k : Int) (had : Bool) (t : shard_Shard) (r : api_Answer × shard_Shard) : AV × WH := ((.agg (e_api_Answer r.1)), [(some (.cells (e_shard_Shard r.2) false false))])

theorem s_table_Table_put_4 (d : Nat) {o : api_Op} {k : Int} {had : Bool} {t : shard_Shard} {r : api_Answer × shard_Shard} (h : table_Table_put_4 o k had t = some r) : Spec (wcalls atab (d + 3)) 97 [(.ptr (some (0, 0))), (.agg (e_api_Op o)), (.int .i64 k), (.bool had)] [(some (.cells (e_shard_Shard t) false false))] (out_table_Table_put_4 o k had t r).1 (out_table_Table_put_4 o k had t r).2 := by
  obtain ⟨x1, hx1⟩ := wx (table_Table_set_4 k o.Value t)
  have e : ∀ C : ACalls, wBody C wB KK WF97 [(.ptr (some (0, 0))), (.agg (e_api_Op o)), (.int .i64 k), (.bool had)] [(some (.cells (e_shard_Shard t) false false))] (.br 25 (.call [] (some false) [] (.tuple []) [(some (.cells [(.acc 1 0 2 x1.2.2.2.2.2.2.2.2.2.2.2.2.2.2.2.2.2.2.length true), (.int .i64 x1.1), (.int .i64 x1.2.1), (.int .i64 x1.2.2.1), (.str x1.2.2.2.1), (.int .i64 x1.2.2.2.2.1), (.int .i64 x1.2.2.2.2.2.1), (.int .i64 x1.2.2.2.2.2.2.1), (.str x1.2.2.2.2.2.2.2.1), (.int .i64 x1.2.2.2.2.2.2.2.2.1), (.int .i64 x1.2.2.2.2.2.2.2.2.2.1), (.int .i64 x1.2.2.2.2.2.2.2.2.2.2.1), (.str x1.2.2.2.2.2.2.2.2.2.2.2.1), (.int .i64 x1.2.2.2.2.2.2.2.2.2.2.2.2.1), (.int .i64 x1.2.2.2.2.2.2.2.2.2.2.2.2.2.1), (.int .i64 x1.2.2.2.2.2.2.2.2.2.2.2.2.2.2.1), (.str x1.2.2.2.2.2.2.2.2.2.2.2.2.2.2.2.1), (.int .i64 x1.2.2.2.2.2.2.2.2.2.2.2.2.2.2.2.2.1), (.int .i64 x1.2.2.2.2.2.2.2.2.2.2.2.2.2.2.2.2.2.1)] false false)), (some (.cells (F_api_Pair x1.2.2.2.2.2.2.2.2.2.2.2.2.2.2.2.2.2.2) false true))] (.st none (.fin (some false) [] (some false)))) (.br 32 (.st none (.fin (some false) [] (some false))) (.ap 22 (insL t.Table.l k (⟨o.Key, o.Value⟩ : api_Pair)).length (F_api_Pair (insL t.Table.l k (⟨o.Key, o.Value⟩ : api_Pair))) (.st none (.st none (.fin (some false) [] (some false))))))) (out_table_Table_put_4 o k had t r).1 (out_table_Table_put_4 o k had t r).2 = (4 = 4 ∧ 4 ≤ 41 ∧ ((had = true → (Spec C 129 [(.ptr (some (0, 0))), (.int .i64 k), (.str o.Value)] [(some (.cells (e_shard_Shard t) false false))] (.tuple []) [(some (.cells [(.acc 1 0 2 x1.2.2.2.2.2.2.2.2.2.2.2.2.2.2.2.2.2.2.length true), (.int .i64 x1.1), (.int .i64 x1.2.1), (.int .i64 x1.2.2.1), (.str x1.2.2.2.1), (.int .i64 x1.2.2.2.2.1), (.int .i64 x1.2.2.2.2.2.1), (.int .i64 x1.2.2.2.2.2.2.1), (.str x1.2.2.2.2.2.2.2.1), (.int .i64 x1.2.2.2.2.2.2.2.2.1), (.int .i64 x1.2.2.2.2.2.2.2.2.2.1), (.int .i64 x1.2.2.2.2.2.2.2.2.2.2.1), (.str x1.2.2.2.2.2.2.2.2.2.2.2.1), (.int .i64 x1.2.2.2.2.2.2.2.2.2.2.2.2.1), (.int .i64 x1.2.2.2.2.2.2.2.2.2.2.2.2.2.1), (.int .i64 x1.2.2.2.2.2.2.2.2.2.2.2.2.2.2.1), (.str x1.2.2.2.2.2.2.2.2.2.2.2.2.2.2.2.1), (.int .i64 x1.2.2.2.2.2.2.2.2.2.2.2.2.2.2.2.2.1), (.int .i64 x1.2.2.2.2.2.2.2.2.2.2.2.2.2.2.2.2.2.1)] false false)), (some (.cells (F_api_Pair x1.2.2.2.2.2.2.2.2.2.2.2.2.2.2.2.2.2.2) false true))] ∧ (1 ≤ 2 ∧ lff (out_table_Table_put_4 o k had t) ((⟨0, ([] : List UInt8)⟩ : api_Answer), (⟨(⟨x1.2.2.2.2.2.2.2.2.2.2.2.2.2.2.2.2.2.2⟩ : table_Table), (⟨(⟨(⟨x1.1, x1.2.1, (⟨x1.2.2.1, x1.2.2.2.1⟩ : api_Answer)⟩ : api_Sess), (⟨x1.2.2.2.2.1, x1.2.2.2.2.2.1, (⟨x1.2.2.2.2.2.2.1, x1.2.2.2.2.2.2.2.1⟩ : api_Answer)⟩ : api_Sess), (⟨x1.2.2.2.2.2.2.2.2.1, x1.2.2.2.2.2.2.2.2.2.1, (⟨x1.2.2.2.2.2.2.2.2.2.2.1, x1.2.2.2.2.2.2.2.2.2.2.2.1⟩ : api_Answer)⟩ : api_Sess), (⟨x1.2.2.2.2.2.2.2.2.2.2.2.2.1, x1.2.2.2.2.2.2.2.2.2.2.2.2.2.1, (⟨x1.2.2.2.2.2.2.2.2.2.2.2.2.2.2.1, x1.2.2.2.2.2.2.2.2.2.2.2.2.2.2.2.1⟩ : api_Answer)⟩ : api_Sess)⟩ : A4 api_Sess)⟩ : session_Sessions), x1.2.2.2.2.2.2.2.2.2.2.2.2.2.2.2.2.1, x1.2.2.2.2.2.2.2.2.2.2.2.2.2.2.2.2.2.1⟩ : shard_Shard)) r))) ∧ (had = false → ((((t.Table.l.length : Int) == 8) = true → lff (out_table_Table_put_4 o k had t) ((⟨5, ([] : List UInt8)⟩ : api_Answer), t) r) ∧ (((t.Table.l.length : Int) == 8) = false → (fitsB 32 t.Table.l.length = true ∧ ((0 ≤ k ∧ k ≤ ((t.Table.l.length : Nat) : Int)) ∧ (t.Table.l.length + 1 = (insL t.Table.l k (⟨o.Key, o.Value⟩ : api_Pair)).length ∧ ((F_api_Pair t.Table.l).take (k.toNat * 2) ++ ([(.str o.Key), (.str o.Value)] ++ (F_api_Pair t.Table.l).drop (k.toNat * 2)) = F_api_Pair (insL t.Table.l k (⟨o.Key, o.Value⟩ : api_Pair)) ∧ (fitsB 32 (insL t.Table.l k (⟨o.Key, o.Value⟩ : api_Pair)).length = true ∧ lff (out_table_Table_put_4 o k had t) ((⟨0, ([] : List UInt8)⟩ : api_Answer), (⟨(⟨(insL t.Table.l k (⟨o.Key, o.Value⟩ : api_Pair))⟩ : table_Table), t.Sessions, t.ID, t.Epoch⟩ : shard_Shard)) r)))))))))) := fun C => by kernel_rfl
  refine spec_of (wB_ok _) rfl atab_97 WF97_ok ((e _).mpr ⟨rfl, by decide, ?_⟩)
  unfold table_Table_put_4 at h
  refine ⟨fun hb => ?_, fun hb => ?_⟩
  · have h := cond_t hb h
    obtain ⟨q1, h⟩ := bget hx1 h
    refine ⟨s_table_Table_set_4 (d + 0) q1, ?_⟩
    refine ⟨by decide, ?_⟩
    exact lff_of h
  · have h := cond_f hb h
    refine ⟨fun hb => ?_, fun hb => ?_⟩
    · have h := cond_t hb h
      exact lff_of h
    · have h := cond_f hb h
      obtain ⟨q2, h⟩ := gd_some h
      refine ⟨q2, ?_⟩
      obtain ⟨q3, h⟩ := gd_some h
      refine ⟨insB_1 q3, ?_⟩
      refine ⟨insB_2 (l := t.Table.l) q3, ?_⟩
      refine ⟨ins_row R_api_Pair rfl, ?_⟩
      refine ⟨insB_3 (l := t.Table.l) q3, ?_⟩
      exact lff_of h

/- (*osmosis/table.Table).cas -/
def table_Table_cas_4 (o : api_Op) (k : Int) (t : shard_Shard) : Option (api_Answer × shard_Shard) :=
  (getI t.Table.l k).bind fun (x1 : api_Pair) => cond (!(x1.Value == o.Old)) (some ((⟨6, x1.Value⟩ : api_Answer), t)) ((table_Table_set_4 k o.Value t).bind fun (x2 : Int × Int × Int × List UInt8 × Int × Int × Int × List UInt8 × Int × Int × Int × List UInt8 × Int × Int × Int × List UInt8 × Int × Int × List api_Pair) => some ((⟨0, ([] : List UInt8)⟩ : api_Answer), (⟨(⟨x2.2.2.2.2.2.2.2.2.2.2.2.2.2.2.2.2.2.2⟩ : table_Table), (⟨(⟨(⟨x2.1, x2.2.1, (⟨x2.2.2.1, x2.2.2.2.1⟩ : api_Answer)⟩ : api_Sess), (⟨x2.2.2.2.2.1, x2.2.2.2.2.2.1, (⟨x2.2.2.2.2.2.2.1, x2.2.2.2.2.2.2.2.1⟩ : api_Answer)⟩ : api_Sess), (⟨x2.2.2.2.2.2.2.2.2.1, x2.2.2.2.2.2.2.2.2.2.1, (⟨x2.2.2.2.2.2.2.2.2.2.2.1, x2.2.2.2.2.2.2.2.2.2.2.2.1⟩ : api_Answer)⟩ : api_Sess), (⟨x2.2.2.2.2.2.2.2.2.2.2.2.2.1, x2.2.2.2.2.2.2.2.2.2.2.2.2.2.1, (⟨x2.2.2.2.2.2.2.2.2.2.2.2.2.2.2.1, x2.2.2.2.2.2.2.2.2.2.2.2.2.2.2.2.1⟩ : api_Answer)⟩ : api_Sess)⟩ : A4 api_Sess)⟩ : session_Sessions), x2.2.2.2.2.2.2.2.2.2.2.2.2.2.2.2.2.1, x2.2.2.2.2.2.2.2.2.2.2.2.2.2.2.2.2.2.1⟩ : shard_Shard)))
def out_table_Table_cas_4 (o : api_Op) (k : Int) (t : shard_Shard) (r : api_Answer × shard_Shard) : AV × WH := ((.agg (e_api_Answer r.1)), [(some (.cells (e_shard_Shard r.2) false false))])

theorem s_table_Table_cas_4 (d : Nat) {o : api_Op} {k : Int} {t : shard_Shard} {r : api_Answer × shard_Shard} (h : table_Table_cas_4 o k t = some r) : Spec (wcalls atab (d + 3)) 98 [(.ptr (some (0, 0))), (.agg (e_api_Op o)), (.int .i64 k)] [(some (.cells (e_shard_Shard t) false false))] (out_table_Table_cas_4 o k t r).1 (out_table_Table_cas_4 o k t r).2 := by
  obtain ⟨x1, hx1⟩ := wx (getI t.Table.l k)
  obtain ⟨x2, hx2⟩ := wx (table_Table_set_4 k o.Value t)
  have e : ∀ C : ACalls, wBody C (fun _ => none) KK WF98 [(.ptr (some (0, 0))), (.agg (e_api_Op o)), (.int .i64 k)] [(some (.cells (e_shard_Shard t) false false))] (.v 13 (.elem ((e_api_Pair x1) ++ F_api_Pair (t.Table.l.drop (k.toNat + 1)))) (.br 19 (.st none (.fin (some false) [] (some false))) (.call [] (some false) [] (.tuple []) [(some (.cells [(.acc 1 0 2 x2.2.2.2.2.2.2.2.2.2.2.2.2.2.2.2.2.2.2.length true), (.int .i64 x2.1), (.int .i64 x2.2.1), (.int .i64 x2.2.2.1), (.str x2.2.2.2.1), (.int .i64 x2.2.2.2.2.1), (.int .i64 x2.2.2.2.2.2.1), (.int .i64 x2.2.2.2.2.2.2.1), (.str x2.2.2.2.2.2.2.2.1), (.int .i64 x2.2.2.2.2.2.2.2.2.1), (.int .i64 x2.2.2.2.2.2.2.2.2.2.1), (.int .i64 x2.2.2.2.2.2.2.2.2.2.2.1), (.str x2.2.2.2.2.2.2.2.2.2.2.2.1), (.int .i64 x2.2.2.2.2.2.2.2.2.2.2.2.2.1), (.int .i64 x2.2.2.2.2.2.2.2.2.2.2.2.2.2.1), (.int .i64 x2.2.2.2.2.2.2.2.2.2.2.2.2.2.2.1), (.str x2.2.2.2.2.2.2.2.2.2.2.2.2.2.2.2.1), (.int .i64 x2.2.2.2.2.2.2.2.2.2.2.2.2.2.2.2.2.1), (.int .i64 x2.2.2.2.2.2.2.2.2.2.2.2.2.2.2.2.2.2.1)] false false)), (some (.cells (F_api_Pair x2.2.2.2.2.2.2.2.2.2.2.2.2.2.2.2.2.2.2) false true))] (.st none (.fin (some false) [] (some false)))))) (out_table_Table_cas_4 o k t r).1 (out_table_Table_cas_4 o k t r).2 = (3 = 3 ∧ 3 ≤ 28 ∧ (wP (.idxSlice 2 (.c (l_api_Pair t.Table.l)) (.c (.int .i64 k))) = some (.elem ((e_api_Pair x1) ++ F_api_Pair (t.Table.l.drop (k.toNat + 1)))) ∧ (((!(x1.Value == o.Old)) = true → lff (out_table_Table_cas_4 o k t) ((⟨6, x1.Value⟩ : api_Answer), t) r) ∧ ((!(x1.Value == o.Old)) = false → (Spec C 129 [(.ptr (some (0, 0))), (.int .i64 k), (.str o.Value)] [(some (.cells (e_shard_Shard t) false false))] (.tuple []) [(some (.cells [(.acc 1 0 2 x2.2.2.2.2.2.2.2.2.2.2.2.2.2.2.2.2.2.2.length true), (.int .i64 x2.1), (.int .i64 x2.2.1), (.int .i64 x2.2.2.1), (.str x2.2.2.2.1), (.int .i64 x2.2.2.2.2.1), (.int .i64 x2.2.2.2.2.2.1), (.int .i64 x2.2.2.2.2.2.2.1), (.str x2.2.2.2.2.2.2.2.1), (.int .i64 x2.2.2.2.2.2.2.2.2.1), (.int .i64 x2.2.2.2.2.2.2.2.2.2.1), (.int .i64 x2.2.2.2.2.2.2.2.2.2.2.1), (.str x2.2.2.2.2.2.2.2.2.2.2.2.1), (.int .i64 x2.2.2.2.2.2.2.2.2.2.2.2.2.1), (.int .i64 x2.2.2.2.2.2.2.2.2.2.2.2.2.2.1), (.int .i64 x2.2.2.2.2.2.2.2.2.2.2.2.2.2.2.1), (.str x2.2.2.2.2.2.2.2.2.2.2.2.2.2.2.2.1), (.int .i64 x2.2.2.2.2.2.2.2.2.2.2.2.2.2.2.2.2.1), (.int .i64 x2.2.2.2.2.2.2.2.2.2.2.2.2.2.2.2.2.2.1)] false false)), (some (.cells (F_api_Pair x2.2.2.2.2.2.2.2.2.2.2.2.2.2.2.2.2.2.2) false true))] ∧ (1 ≤ 2 ∧ lff (out_table_Table_cas_4 o k t) ((⟨0, ([] : List UInt8)⟩ : api_Answer), (⟨(⟨x2.2.2.2.2.2.2.2.2.2.2.2.2.2.2.2.2.2.2⟩ : table_Table), (⟨(⟨(⟨x2.1, x2.2.1, (⟨x2.2.2.1, x2.2.2.2.1⟩ : api_Answer)⟩ : api_Sess), (⟨x2.2.2.2.2.1, x2.2.2.2.2.2.1, (⟨x2.2.2.2.2.2.2.1, x2.2.2.2.2.2.2.2.1⟩ : api_Answer)⟩ : api_Sess), (⟨x2.2.2.2.2.2.2.2.2.1, x2.2.2.2.2.2.2.2.2.2.1, (⟨x2.2.2.2.2.2.2.2.2.2.2.1, x2.2.2.2.2.2.2.2.2.2.2.2.1⟩ : api_Answer)⟩ : api_Sess), (⟨x2.2.2.2.2.2.2.2.2.2.2.2.2.1, x2.2.2.2.2.2.2.2.2.2.2.2.2.2.1, (⟨x2.2.2.2.2.2.2.2.2.2.2.2.2.2.2.1, x2.2.2.2.2.2.2.2.2.2.2.2.2.2.2.2.1⟩ : api_Answer)⟩ : api_Sess)⟩ : A4 api_Sess)⟩ : session_Sessions), x2.2.2.2.2.2.2.2.2.2.2.2.2.2.2.2.2.1, x2.2.2.2.2.2.2.2.2.2.2.2.2.2.2.2.2.2.1⟩ : shard_Shard)) r)))))) := fun C => by kernel_rfl
  refine spec_of (fun _ _ h => by cases h) rfl atab_98 WF98_ok ((e _).mpr ⟨rfl, by decide, ?_⟩)
  unfold table_Table_cas_4 at h
  obtain ⟨q1, h⟩ := bget hx1 h
  refine ⟨wP_idx R_api_Pair q1, ?_⟩
  refine ⟨fun hb => ?_, fun hb => ?_⟩
  · have h := cond_t hb h
    exact lff_of h
  · have h := cond_f hb h
    obtain ⟨q2, h⟩ := bget hx2 h
    refine ⟨s_table_Table_set_4 (d + 0) q2, ?_⟩
    refine ⟨by decide, ?_⟩
    exact lff_of h

/- (*osmosis/table.Table).Do -/
def table_Table_Do_4 (o : api_Op) (t : shard_Shard) : Option (api_Answer × shard_Shard) :=
  (table_Right o).bind fun (x1 : Bool) => cond (!x1) (some ((⟨1, ([] : List UInt8)⟩ : api_Answer), t)) ((table_Table_find_4 o.Key t).bind fun (x2 : Int × Bool) => cond (o.Kind == 2) ((table_Table_put_4 o x2.1 x2.2 t).bind fun (x3 : api_Answer × shard_Shard) => some (x3.1, x3.2)) (cond (!x2.2) (some ((⟨4, ([] : List UInt8)⟩ : api_Answer), t)) (cond (o.Kind == 1) ((getI t.Table.l x2.1).bind fun (x4 : api_Pair) => some ((⟨0, x4.Value⟩ : api_Answer), t)) (cond (o.Kind == 4) ((table_Table_cas_4 o x2.1 t).bind fun (x5 : api_Answer × shard_Shard) => some (x5.1, x5.2)) (gd (fitsB 32 t.Table.l.length) (gd (delB x2.1 (IntKind.i64.wrap (x2.1 + 1)) t.Table.l.length) (some ((⟨0, ([] : List UInt8)⟩ : api_Answer), (⟨(⟨(delL t.Table.l x2.1 (IntKind.i64.wrap (x2.1 + 1)))⟩ : table_Table), t.Sessions, t.ID, t.Epoch⟩ : shard_Shard)))))))))
def out_table_Table_Do_4 (o : api_Op) (t : shard_Shard) (r : api_Answer × shard_Shard) : AV × WH := ((.agg (e_api_Answer r.1)), [(some (.cells (e_shard_Shard r.2) false false))])

theorem s_table_Table_Do_4 (d : Nat) {o : api_Op} {t : shard_Shard} {r : api_Answer × shard_Shard} (h : table_Table_Do_4 o t = some r) : Spec (wcalls atab (d + 6)) 52 [(.ptr (some (0, 0))), (.agg (e_api_Op o))] [(some (.cells (e_shard_Shard t) false false))] (out_table_Table_Do_4 o t r).1 (out_table_Table_Do_4 o t r).2 := by
  obtain ⟨x1, hx1⟩ := wx (table_Right o)
  obtain ⟨x2, hx2⟩ := wx (table_Table_find_4 o.Key t)
  obtain ⟨x3, hx3⟩ := wx (table_Table_put_4 o x2.1 x2.2 t)
  obtain ⟨x4, hx4⟩ := wx (getI t.Table.l x2.1)
  obtain ⟨x5, hx5⟩ := wx (table_Table_cas_4 o x2.1 t)
  have e : ∀ C : ACalls, wBody C wB KK WF52 [(.ptr (some (0, 0))), (.agg (e_api_Op o))] [(some (.cells (e_shard_Shard t) false false))] (.cb [] [] (.bool x1) (.br 9 (.st none (.fin (some false) [] (some false))) (.call [] (some false) [] (.tuple [(.int .i64 x2.1), (.bool x2.2)]) [(some (.cells (e_shard_Shard t) false false))] (.br 18 (.call [] (some false) [] (.agg (e_api_Answer x3.1)) [(some (.cells (e_shard_Shard x3.2) false false))] (.st none (.fin (some false) [] (some false)))) (.br 27 (.st none (.fin (some false) [] (some false))) (.br 31 (.v 40 (.elem ((e_api_Pair x4) ++ F_api_Pair (t.Table.l.drop (x2.1.toNat + 1)))) (.st none (.fin (some false) [] (some false)))) (.br 44 (.call [] (some false) [] (.agg (e_api_Answer x5.1)) [(some (.cells (e_shard_Shard x5.2) false false))] (.st none (.fin (some false) [] (some false)))) (.ap 61 (delL t.Table.l x2.1 (IntKind.i64.wrap (x2.1 + 1))).length (F_api_Pair (delL t.Table.l x2.1 (IntKind.i64.wrap (x2.1 + 1)))) (.st none (.st none (.fin (some false) [] (some false)))))))))))) (out_table_Table_Do_4 o t r).1 (out_table_Table_Do_4 o t r).2 = (2 = 2 ∧ 2 ≤ 65 ∧ (Spec C 57 [(.agg (e_api_Op o))] [] (.bool x1) [] ∧ (((!x1) = true → lff (out_table_Table_Do_4 o t) ((⟨1, ([] : List UInt8)⟩ : api_Answer), t) r) ∧ ((!x1) = false → (Spec C 96 [(.ptr (some (0, 0))), (.str o.Key)] [(some (.cells (e_shard_Shard t) false false))] (.tuple [(.int .i64 x2.1), (.bool x2.2)]) [(some (.cells (e_shard_Shard t) false false))] ∧ (1 ≤ 1 ∧ (((o.Kind == 2) = true → (Spec C 97 [(.ptr (some (0, 0))), (.agg (e_api_Op o)), (.int .i64 x2.1), (.bool x2.2)] [(some (.cells (e_shard_Shard t) false false))] (.agg (e_api_Answer x3.1)) [(some (.cells (e_shard_Shard x3.2) false false))] ∧ (1 ≤ 1 ∧ lff (out_table_Table_Do_4 o t) (x3.1, x3.2) r))) ∧ ((o.Kind == 2) = false → (((!x2.2) = true → lff (out_table_Table_Do_4 o t) ((⟨4, ([] : List UInt8)⟩ : api_Answer), t) r) ∧ ((!x2.2) = false → (((o.Kind == 1) = true → (wP (.idxSlice 2 (.c (l_api_Pair t.Table.l)) (.c (.int .i64 x2.1))) = some (.elem ((e_api_Pair x4) ++ F_api_Pair (t.Table.l.drop (x2.1.toNat + 1)))) ∧ lff (out_table_Table_Do_4 o t) ((⟨0, x4.Value⟩ : api_Answer), t) r)) ∧ ((o.Kind == 1) = false → (((o.Kind == 4) = true → (Spec C 98 [(.ptr (some (0, 0))), (.agg (e_api_Op o)), (.int .i64 x2.1)] [(some (.cells (e_shard_Shard t) false false))] (.agg (e_api_Answer x5.1)) [(some (.cells (e_shard_Shard x5.2) false false))] ∧ (1 ≤ 1 ∧ lff (out_table_Table_Do_4 o t) (x5.1, x5.2) r))) ∧ ((o.Kind == 4) = false → (fitsB 32 t.Table.l.length = true ∧ ((0 ≤ x2.1 ∧ x2.1 < (IntKind.i64.wrap (x2.1 + 1)) ∧ (IntKind.i64.wrap (x2.1 + 1)) ≤ ((t.Table.l.length : Nat) : Int)) ∧ (t.Table.l.length - ((IntKind.i64.wrap (x2.1 + 1)).toNat - x2.1.toNat) = (delL t.Table.l x2.1 (IntKind.i64.wrap (x2.1 + 1))).length ∧ ((F_api_Pair t.Table.l).take (x2.1.toNat * 2) ++ (F_api_Pair t.Table.l).drop ((IntKind.i64.wrap (x2.1 + 1)).toNat * 2) = F_api_Pair (delL t.Table.l x2.1 (IntKind.i64.wrap (x2.1 + 1))) ∧ lff (out_table_Table_Do_4 o t) ((⟨0, ([] : List UInt8)⟩ : api_Answer), (⟨(⟨(delL t.Table.l x2.1 (IntKind.i64.wrap (x2.1 + 1)))⟩ : table_Table), t.Sessions, t.ID, t.Epoch⟩ : shard_Shard)) r)))))))))))))))))) := fun C => by kernel_rfl
  refine spec_of (wB_ok _) rfl atab_52 WF52_ok ((e _).mpr ⟨rfl, by decide, ?_⟩)
  unfold table_Table_Do_4 at h
  obtain ⟨q1, h⟩ := bget hx1 h
  refine ⟨s_table_Right (d + 4) q1, ?_⟩
  refine ⟨fun hb => ?_, fun hb => ?_⟩
  · have h := cond_t hb h
    exact lff_of h
  · have h := cond_f hb h
    obtain ⟨q2, h⟩ := bget hx2 h
    refine ⟨s_table_Table_find_4 (d + 0) q2, ?_⟩
    refine ⟨by decide, ?_⟩
    refine ⟨fun hb => ?_, fun hb => ?_⟩
    · have h := cond_t hb h
      obtain ⟨q3, h⟩ := bget hx3 h
      refine ⟨s_table_Table_put_4 (d + 2) q3, ?_⟩
      refine ⟨by decide, ?_⟩
      exact lff_of h
    · have h := cond_f hb h
      refine ⟨fun hb => ?_, fun hb => ?_⟩
      · have h := cond_t hb h
        exact lff_of h
      · have h := cond_f hb h
        refine ⟨fun hb => ?_, fun hb => ?_⟩
        · have h := cond_t hb h
          obtain ⟨q4, h⟩ := bget hx4 h
          refine ⟨wP_idx R_api_Pair q4, ?_⟩
          exact lff_of h
        · have h := cond_f hb h
          refine ⟨fun hb => ?_, fun hb => ?_⟩
          · have h := cond_t hb h
            obtain ⟨q5, h⟩ := bget hx5 h
            refine ⟨s_table_Table_cas_4 (d + 2) q5, ?_⟩
            refine ⟨by decide, ?_⟩
            exact lff_of h
          · have h := cond_f hb h
            obtain ⟨q6, h⟩ := gd_some h
            refine ⟨q6, ?_⟩
            obtain ⟨q7, h⟩ := gd_some h
            refine ⟨delB_1 q7, ?_⟩
            refine ⟨delB_2 (l := t.Table.l) q7, ?_⟩
            refine ⟨del_row R_api_Pair, ?_⟩
            exact lff_of h

/- (*osmosis/session.Sessions).Note -/
abbrev in_session_Sessions_Note_2_J0 (p_x : api_Sess) (p_s : shard_Shard) : Fast × WH := ([(0, (.ptr (some (0, 1)))), (3, (.ptr (some (1, 0))))], [(some (.cells (e_shard_Shard p_s) false false)), (some (.cells (e_api_Sess p_x) false false))])
def fin_session_Sessions_Note_2_J0 (p_x : api_Sess) (p_s : shard_Shard) : Unit ⊕ Unit → Ex × Fast × WH := fun
  | .inl e => (.ret, [(4, (.bool false))], [(some (.cells (e_shard_Shard p_s) false false))])
  | .inr e => (.normal, [(0, (.ptr (some (0, 1)))), (3, (.ptr (some (1, 0))))], [(some (.cells (e_shard_Shard p_s) false false)), (some (.cells (e_api_Sess p_x) false false))])
def session_Sessions_Note_2_J0 (p_x : api_Sess) (p_s : shard_Shard) : Option (Unit ⊕ Unit) :=
  cond (decide (p_x.Client < 0)) (some (.inl ())) (cond (decide (p_x.Client ≥ 4)) (some (.inl ())) (cond (decide (p_x.Seq < 1)) (some (.inl ())) ((getI (p_s.Sessions.l.toL) p_x.Client).bind fun (x1 : api_Sess) => cond (decide (p_x.Seq ≤ x1.Seq)) (some (.inl ())) (some (.inr ())))))
theorem s_session_Sessions_Note_2_J0 (d : Nat) {p_x : api_Sess} {p_s : shard_Shard} {r : Unit ⊕ Unit} (h : session_Sessions_Note_2_J0 p_x p_s = some r) : RunX (bexec (wcalls atab (d + 0)) KK 38 WJ106_ba) 1 (in_session_Sessions_Note_2_J0 p_x p_s) (fin_session_Sessions_Note_2_J0 p_x p_s r) := by
  obtain ⟨x1, hx1⟩ := wx (getI (p_s.Sessions.l.toL) p_x.Client)
  have e : ∀ C : ACalls, wCode C (fun _ => none) KK 38 1 WJ106_ba (in_session_Sessions_Note_2_J0 p_x p_s).1 (in_session_Sessions_Note_2_J0 p_x p_s).2 (.br 8 (.en [4] [none] [] []) (.br 13 (.en [4] [none] [] []) (.br 18 (.en [4] [none] [] []) (.v 26 (.ptr (some (0, 1 + p_x.Client.toNat * 4))) (.v 28 (.int .i64 x1.Seq) (.br 30 (.en [4] [none] [] []) (.en [0, 3] [none, none] [] []))))))) (fin_session_Sessions_Note_2_J0 p_x p_s r) = (((decide (p_x.Client < 0)) = true → lfe (fin_session_Sessions_Note_2_J0 p_x p_s) (.inl ()) r) ∧ ((decide (p_x.Client < 0)) = false → (((decide (p_x.Client ≥ 4)) = true → lfe (fin_session_Sessions_Note_2_J0 p_x p_s) (.inl ()) r) ∧ ((decide (p_x.Client ≥ 4)) = false → (((decide (p_x.Seq < 1)) = true → lfe (fin_session_Sessions_Note_2_J0 p_x p_s) (.inl ()) r) ∧ ((decide (p_x.Seq < 1)) = false → (wP (.idxArr 4 4 (.c (.ptr (some (0, 1)))) (.c (.int .i64 p_x.Client))) = some (.ptr (some (0, 1 + p_x.Client.toNat * 4))) ∧ (cPart false (1 + p_x.Client.toNat * 4 + 1) 1 (e_shard_Shard p_s) = some (.int .i64 x1.Seq) ∧ (((decide (p_x.Seq ≤ x1.Seq)) = true → lfe (fin_session_Sessions_Note_2_J0 p_x p_s) (.inl ()) r) ∧ ((decide (p_x.Seq ≤ x1.Seq)) = false → lfe (fin_session_Sessions_Note_2_J0 p_x p_s) (.inr ()) r)))))))))) := fun C => by kernel_rfl
  refine runS_of (fun _ _ h => by cases h) WJ106_ba_ok (Nat.le_of_ble_eq_true rfl) ((e _).mpr ?_)
  unfold session_Sessions_Note_2_J0 at h
  refine ⟨fun hb => ?_, fun hb => ?_⟩
  · have h := cond_t hb h
    exact lfe_of h
  · have h := cond_f hb h
    refine ⟨fun hb => ?_, fun hb => ?_⟩
    · have h := cond_t hb h
      exact lfe_of h
    · have h := cond_f hb h
      refine ⟨fun hb => ?_, fun hb => ?_⟩
      · have h := cond_t hb h
        exact lfe_of h
      · have h := cond_f hb h
        obtain ⟨q1, h⟩ := bget hx1 h
        refine ⟨wP_arr q1 rfl, ?_⟩
        refine ⟨cP_arr (p := 1) (o := 1) R_api_Sess q1 rfl rfl, ?_⟩
        refine ⟨fun hb => ?_, fun hb => ?_⟩
        · have h := cond_t hb h
          exact lfe_of h
        · have h := cond_f hb h
          exact lfe_of h

def session_Sessions_Note_2 (p_x : api_Sess) (p_s : shard_Shard) : Option (Bool × shard_Shard) :=
  (session_Sessions_Note_2_J0 p_x p_s).bind fun (x2 : Unit ⊕ Unit) => cond (isL x2) (some (false, p_s)) ((getI (p_s.Sessions.l.toL) p_x.Client).bind fun (x4 : api_Sess) => some (true, (⟨p_s.Table, (⟨(p_s.Sessions.l.set p_x.Client p_x)⟩ : session_Sessions), p_s.ID, p_s.Epoch⟩ : shard_Shard)))
def out_session_Sessions_Note_2 (p_x : api_Sess) (p_s : shard_Shard) (r : Bool × shard_Shard) : AV × WH := ((.bool r.1), [(some (.cells (e_shard_Shard r.2) false false))])

theorem s_session_Sessions_Note_2 (d : Nat) {p_x : api_Sess} {p_s : shard_Shard} {r : Bool × shard_Shard} (h : session_Sessions_Note_2 p_x p_s = some r) : Spec (wcalls atab (d + 1)) 106 [(.ptr (some (0, 1))), (.agg (e_api_Sess p_x))] [(some (.cells (e_shard_Shard p_s) false false))] (out_session_Sessions_Note_2 p_x p_s r).1 (out_session_Sessions_Note_2 p_x p_s r).2 := by
  obtain ⟨x2, hx2⟩ := wx (session_Sessions_Note_2_J0 p_x p_s)
  obtain ⟨x4, hx4⟩ := wx (getI (p_s.Sessions.l.toL) p_x.Client)
  have e : ∀ C : ACalls, wBody C (fun _ => none) KK WF106 [(.ptr (some (0, 1))), (.agg (e_api_Sess p_x))] [(some (.cells (e_shard_Shard p_s) false false))] (.sk (.ite (isL x2) (.jn [0, 3] [none, none] [] [] .ret [(4, (.bool false))] [(some (.cells (e_shard_Shard p_s) false false))] (.fin (some false) [] none)) (.jn [0, 3] [none, none] [] [] .normal [(0, (.ptr (some (0, 1)))), (3, (.ptr (some (1, 0))))] [(some (.cells (e_shard_Shard p_s) false false)), (some (.cells (e_api_Sess p_x) false false))] (.v 37 (.ptr (some (0, 1 + p_x.Client.toNat * 4))) (.st (some (e_shard_Shard (⟨p_s.Table, (⟨(p_s.Sessions.l.set p_x.Client p_x)⟩ : session_Sessions), p_s.ID, p_s.Epoch⟩ : shard_Shard))) (.fin (some false) [] none)))))) (out_session_Sessions_Note_2 p_x p_s r).1 (out_session_Sessions_Note_2 p_x p_s r).2 = (2 = 2 ∧ 2 ≤ 38 ∧ (((isL x2) = true → (RunS (bexec C KK 38 WJ106_ba) 1 [(0, (.ptr (some (0, 1)))), (3, (.ptr (some (1, 0))))] [(some (.cells (e_shard_Shard p_s) false false)), (some (.cells (e_api_Sess p_x) false false))] .ret [(4, (.bool false))] [(some (.cells (e_shard_Shard p_s) false false))] ∧ lff (out_session_Sessions_Note_2 p_x p_s) (false, p_s) r)) ∧ ((isL x2) = false → (RunS (bexec C KK 38 WJ106_ba) 1 [(0, (.ptr (some (0, 1)))), (3, (.ptr (some (1, 0))))] [(some (.cells (e_shard_Shard p_s) false false)), (some (.cells (e_api_Sess p_x) false false))] .normal [(0, (.ptr (some (0, 1)))), (3, (.ptr (some (1, 0))))] [(some (.cells (e_shard_Shard p_s) false false)), (some (.cells (e_api_Sess p_x) false false))] ∧ (wP (.idxArr 4 4 (.c (.ptr (some (0, 1)))) (.c (.int .i64 p_x.Client))) = some (.ptr (some (0, 1 + p_x.Client.toNat * 4))) ∧ (wrC (e_shard_Shard p_s) (1 + p_x.Client.toNat * 4) [(.int .i64 p_x.Client), (.int .i64 p_x.Seq), (.int .i64 p_x.Answer.Why), (.str p_x.Answer.Value)] = some (e_shard_Shard (⟨p_s.Table, (⟨(p_s.Sessions.l.set p_x.Client p_x)⟩ : session_Sessions), p_s.ID, p_s.Epoch⟩ : shard_Shard)) ∧ lff (out_session_Sessions_Note_2 p_x p_s) (true, (⟨p_s.Table, (⟨(p_s.Sessions.l.set p_x.Client p_x)⟩ : session_Sessions), p_s.ID, p_s.Epoch⟩ : shard_Shard)) r)))))) := fun C => by kernel_rfl
  refine spec_of (fun _ _ h => by cases h) rfl atab_106 WF106_ok ((e _).mpr ⟨rfl, by decide, ?_⟩)
  unfold session_Sessions_Note_2 at h
  obtain ⟨q2, h⟩ := bget hx2 h
  refine ⟨fun hb3 => ?_, fun hb3 => ?_⟩
  · have h := cond_t hb3 h
    refine ⟨by have h := s_session_Sessions_Note_2_J0 (d + 0) q2; rw [isL_t hb3] at h; exact h, ?_⟩
    exact lff_of h
  · have h := cond_f hb3 h
    refine ⟨by have h := s_session_Sessions_Note_2_J0 (d + 0) q2; rw [isL_f hb3] at h; exact h, ?_⟩
    obtain ⟨q4, h⟩ := bget hx4 h
    refine ⟨wP_arr q4 rfl, ?_⟩
    refine ⟨wr_arr (p := 1) (o := 0) R_api_Sess q4 (A4.toL_set _ q4) rfl (Nat.le_of_ble_eq_true rfl) rfl rfl, ?_⟩
    exact lff_of h

/- (*osmosis/shard.Shard).Ask -/
abbrev in_shard_Shard_Ask_J0 (p_r : api_Req) (p_s : shard_Shard) : Fast × WH := ([(0, (.ptr (some (0, 0)))), (3, (.ptr (some (1, 0)))), (4, (.ptr (some (2, 0))))], [(some (.cells (e_shard_Shard p_s) false false)), (some (.cells (e_api_Req p_r) false false)), (some (.cells (e_api_Answer (⟨0, ([] : List UInt8)⟩ : api_Answer)) false false))])
def fin_shard_Shard_Ask_J0 (p_r : api_Req) (p_s : shard_Shard) : Unit ⊕ Unit → Ex × Fast × WH := fun
  | .inl e => (.ret, [(4, (.ptr (some (1, 0)))), (5, (.bool false))], [(some (.cells (e_shard_Shard p_s) false false)), (some (.cells (e_api_Answer (⟨1, ([] : List UInt8)⟩ : api_Answer)) false false))])
  | .inr e => (.normal, [(0, (.ptr (some (0, 0)))), (3, (.ptr (some (1, 0)))), (4, (.ptr (some (2, 0))))], [(some (.cells (e_shard_Shard p_s) false false)), (some (.cells (e_api_Req p_r) false false)), (some (.cells (e_api_Answer (⟨0, ([] : List UInt8)⟩ : api_Answer)) false false))])
def shard_Shard_Ask_J0 (p_r : api_Req) (p_s : shard_Shard) : Option (Unit ⊕ Unit) :=
  cond (decide (p_r.Client < 0)) (some (.inl ())) (cond (decide (p_r.Client ≥ 4)) (some (.inl ())) (cond (decide (p_r.Seq < 1)) (some (.inl ())) (cond (decide (p_r.Seq > 4611686018427387903)) (some (.inl ())) ((table_Right p_r.Op).bind fun (x1 : Bool) => cond (!x1) (some (.inl ())) (some (.inr ()))))))
theorem s_shard_Shard_Ask_J0 (d : Nat) {p_r : api_Req} {p_s : shard_Shard} {r : Unit ⊕ Unit} (h : shard_Shard_Ask_J0 p_r p_s = some r) : RunX (bexec (wcalls atab (d + 1)) KK 74 WJ66_ba) 1 (in_shard_Shard_Ask_J0 p_r p_s) (fin_shard_Shard_Ask_J0 p_r p_s r) := by
  obtain ⟨x1, hx1⟩ := wx (table_Right p_r.Op)
  have e : ∀ C : ACalls, wCode C (fun _ => none) KK 74 1 WJ66_ba (in_shard_Shard_Ask_J0 p_r p_s).1 (in_shard_Shard_Ask_J0 p_r p_s).2 (.br 11 (.st none (.en [4, 5] [none, none] [] [])) (.br 16 (.st none (.en [4, 5] [none, none] [] [])) (.br 21 (.st none (.en [4, 5] [none, none] [] [])) (.br 26 (.st none (.en [4, 5] [none, none] [] [])) (.cb [] [] (.bool x1) (.br 31 (.st none (.en [4, 5] [none, none] [] [])) (.en [0, 3, 4] [none, none, none] [] []))))))) (fin_shard_Shard_Ask_J0 p_r p_s r) = (((decide (p_r.Client < 0)) = true → lfe (fin_shard_Shard_Ask_J0 p_r p_s) (.inl ()) r) ∧ ((decide (p_r.Client < 0)) = false → (((decide (p_r.Client ≥ 4)) = true → lfe (fin_shard_Shard_Ask_J0 p_r p_s) (.inl ()) r) ∧ ((decide (p_r.Client ≥ 4)) = false → (((decide (p_r.Seq < 1)) = true → lfe (fin_shard_Shard_Ask_J0 p_r p_s) (.inl ()) r) ∧ ((decide (p_r.Seq < 1)) = false → (((decide (p_r.Seq > 4611686018427387903)) = true → lfe (fin_shard_Shard_Ask_J0 p_r p_s) (.inl ()) r) ∧ ((decide (p_r.Seq > 4611686018427387903)) = false → (Spec C 57 [(.agg (e_api_Op p_r.Op))] [] (.bool x1) [] ∧ (((!x1) = true → lfe (fin_shard_Shard_Ask_J0 p_r p_s) (.inl ()) r) ∧ ((!x1) = false → lfe (fin_shard_Shard_Ask_J0 p_r p_s) (.inr ()) r))))))))))) := fun C => by kernel_rfl
  refine runS_of (fun _ _ h => by cases h) WJ66_ba_ok (Nat.le_of_ble_eq_true rfl) ((e _).mpr ?_)
  unfold shard_Shard_Ask_J0 at h
  refine ⟨fun hb => ?_, fun hb => ?_⟩
  · have h := cond_t hb h
    exact lfe_of h
  · have h := cond_f hb h
    refine ⟨fun hb => ?_, fun hb => ?_⟩
    · have h := cond_t hb h
      exact lfe_of h
    · have h := cond_f hb h
      refine ⟨fun hb => ?_, fun hb => ?_⟩
      · have h := cond_t hb h
        exact lfe_of h
      · have h := cond_f hb h
        refine ⟨fun hb => ?_, fun hb => ?_⟩
        · have h := cond_t hb h
          exact lfe_of h
        · have h := cond_f hb h
          obtain ⟨q1, h⟩ := bget hx1 h
          refine ⟨s_table_Right (d + 0) q1, ?_⟩
          refine ⟨fun hb => ?_, fun hb => ?_⟩
          · have h := cond_t hb h
            exact lfe_of h
          · have h := cond_f hb h
            exact lfe_of h

def shard_Shard_Ask (p_r : api_Req) (p_s : shard_Shard) : Option (api_Answer × Bool × shard_Shard) :=
  (shard_Shard_Ask_J0 p_r p_s).bind fun (x2 : Unit ⊕ Unit) => cond (isL x2) (some ((⟨1, ([] : List UInt8)⟩ : api_Answer), false, p_s)) ((session_Sessions_Last p_r.Client p_s).bind fun (x4 : api_Sess × Bool) => cond (p_r.Seq == x4.1.Seq) (some (x4.1.Answer, false, p_s)) (cond (decide (p_r.Seq < x4.1.Seq)) (some ((⟨9, ([] : List UInt8)⟩ : api_Answer), false, p_s)) ((table_Table_Do_4 p_r.Op p_s).bind fun (x5 : api_Answer × shard_Shard) => (session_Sessions_Note_2 (⟨p_r.Client, p_r.Seq, x5.1⟩ : api_Sess) x5.2).bind fun (x6 : Bool × shard_Shard) => some (x5.1, true, x6.2))))
def out_shard_Shard_Ask (p_r : api_Req) (p_s : shard_Shard) (r : api_Answer × Bool × shard_Shard) : AV × WH := ((.tuple [(.agg (e_api_Answer r.1)), (.bool r.2.1)]), [(some (.cells (e_shard_Shard r.2.2) false false))])

theorem s_shard_Shard_Ask (d : Nat) {p_r : api_Req} {p_s : shard_Shard} {r : api_Answer × Bool × shard_Shard} (h : shard_Shard_Ask p_r p_s = some r) : Spec (wcalls atab (d + 7)) 66 [(.ptr (some (0, 0))), (.agg (e_api_Req p_r))] [(some (.cells (e_shard_Shard p_s) false false))] (out_shard_Shard_Ask p_r p_s r).1 (out_shard_Shard_Ask p_r p_s r).2 := by
  obtain ⟨x2, hx2⟩ := wx (shard_Shard_Ask_J0 p_r p_s)
  obtain ⟨x4, hx4⟩ := wx (session_Sessions_Last p_r.Client p_s)
  obtain ⟨x5, hx5⟩ := wx (table_Table_Do_4 p_r.Op p_s)
  obtain ⟨x6, hx6⟩ := wx (session_Sessions_Note_2 (⟨p_r.Client, p_r.Seq, x5.1⟩ : api_Sess) x5.2)
  have e : ∀ C : ACalls, wBody C (fun _ => none) KK WF66 [(.ptr (some (0, 0))), (.agg (e_api_Req p_r))] [(some (.cells (e_shard_Shard p_s) false false))] (.sk (.ite (isL x2) (.jn [0, 3, 4] [none, none, none] [] [] .ret [(4, (.ptr (some (1, 0)))), (5, (.bool false))] [(some (.cells (e_shard_Shard p_s) false false)), (some (.cells (e_api_Answer (⟨1, ([] : List UInt8)⟩ : api_Answer)) false false))] (.fin (some false) [] none)) (.jn [0, 3, 4] [none, none, none] [] [] .normal [(0, (.ptr (some (0, 0)))), (3, (.ptr (some (1, 0)))), (4, (.ptr (some (2, 0))))] [(some (.cells (e_shard_Shard p_s) false false)), (some (.cells (e_api_Req p_r) false false)), (some (.cells (e_api_Answer (⟨0, ([] : List UInt8)⟩ : api_Answer)) false false))] (.call [] (some false) [] (.tuple [(.agg (e_api_Sess x4.1)), (.bool x4.2)]) [(some (.cells (e_shard_Shard p_s) false false))] (.st none (.br 42 (.st none (.fin (some false) [] none)) (.br 50 (.st none (.fin (some false) [] none)) (.call [] (some false) [] (.agg (e_api_Answer x5.1)) [(some (.cells (e_shard_Shard x5.2) false false))] (.st none (.call [] (some false) [] (.bool x6.1) [(some (.cells (e_shard_Shard x6.2) false false))] (.st none (.fin (some false) [] none)))))))))))) (out_shard_Shard_Ask p_r p_s r).1 (out_shard_Shard_Ask p_r p_s r).2 = (2 = 2 ∧ 2 ≤ 74 ∧ (((isL x2) = true → (RunS (bexec C KK 74 WJ66_ba) 1 [(0, (.ptr (some (0, 0)))), (3, (.ptr (some (1, 0)))), (4, (.ptr (some (2, 0))))] [(some (.cells (e_shard_Shard p_s) false false)), (some (.cells (e_api_Req p_r) false false)), (some (.cells (e_api_Answer (⟨0, ([] : List UInt8)⟩ : api_Answer)) false false))] .ret [(4, (.ptr (some (1, 0)))), (5, (.bool false))] [(some (.cells (e_shard_Shard p_s) false false)), (some (.cells (e_api_Answer (⟨1, ([] : List UInt8)⟩ : api_Answer)) false false))] ∧ lff (out_shard_Shard_Ask p_r p_s) ((⟨1, ([] : List UInt8)⟩ : api_Answer), false, p_s) r)) ∧ ((isL x2) = false → (RunS (bexec C KK 74 WJ66_ba) 1 [(0, (.ptr (some (0, 0)))), (3, (.ptr (some (1, 0)))), (4, (.ptr (some (2, 0))))] [(some (.cells (e_shard_Shard p_s) false false)), (some (.cells (e_api_Req p_r) false false)), (some (.cells (e_api_Answer (⟨0, ([] : List UInt8)⟩ : api_Answer)) false false))] .normal [(0, (.ptr (some (0, 0)))), (3, (.ptr (some (1, 0)))), (4, (.ptr (some (2, 0))))] [(some (.cells (e_shard_Shard p_s) false false)), (some (.cells (e_api_Req p_r) false false)), (some (.cells (e_api_Answer (⟨0, ([] : List UInt8)⟩ : api_Answer)) false false))] ∧ (Spec C 72 [(.ptr (some (0, 1))), (.int .i64 p_r.Client)] [(some (.cells (e_shard_Shard p_s) false false))] (.tuple [(.agg (e_api_Sess x4.1)), (.bool x4.2)]) [(some (.cells (e_shard_Shard p_s) false false))] ∧ (1 ≤ 1 ∧ (((p_r.Seq == x4.1.Seq) = true → lff (out_shard_Shard_Ask p_r p_s) (x4.1.Answer, false, p_s) r) ∧ ((p_r.Seq == x4.1.Seq) = false → (((decide (p_r.Seq < x4.1.Seq)) = true → lff (out_shard_Shard_Ask p_r p_s) ((⟨9, ([] : List UInt8)⟩ : api_Answer), false, p_s) r) ∧ ((decide (p_r.Seq < x4.1.Seq)) = false → (Spec C 52 [(.ptr (some (0, 0))), (.agg (e_api_Op p_r.Op))] [(some (.cells (e_shard_Shard p_s) false false))] (.agg (e_api_Answer x5.1)) [(some (.cells (e_shard_Shard x5.2) false false))] ∧ (1 ≤ 1 ∧ (Spec C 106 [(.ptr (some (0, 1))), (.agg (e_api_Sess (⟨p_r.Client, p_r.Seq, x5.1⟩ : api_Sess)))] [(some (.cells (e_shard_Shard x5.2) false false))] (.bool x6.1) [(some (.cells (e_shard_Shard x6.2) false false))] ∧ (1 ≤ 1 ∧ lff (out_shard_Shard_Ask p_r p_s) (x5.1, true, x6.2) r)))))))))))))) := fun C => by kernel_rfl
  refine spec_of (fun _ _ h => by cases h) rfl atab_66 WF66_ok ((e _).mpr ⟨rfl, by decide, ?_⟩)
  unfold shard_Shard_Ask at h
  obtain ⟨q2, h⟩ := bget hx2 h
  refine ⟨fun hb3 => ?_, fun hb3 => ?_⟩
  · have h := cond_t hb3 h
    refine ⟨by have h := s_shard_Shard_Ask_J0 (d + 5) q2; rw [isL_t hb3] at h; exact h, ?_⟩
    exact lff_of h
  · have h := cond_f hb3 h
    refine ⟨by have h := s_shard_Shard_Ask_J0 (d + 5) q2; rw [isL_f hb3] at h; exact h, ?_⟩
    obtain ⟨q4, h⟩ := bget hx4 h
    refine ⟨s_session_Sessions_Last (d + 5) q4, ?_⟩
    refine ⟨by decide, ?_⟩
    refine ⟨fun hb => ?_, fun hb => ?_⟩
    · have h := cond_t hb h
      exact lff_of h
    · have h := cond_f hb h
      refine ⟨fun hb => ?_, fun hb => ?_⟩
      · have h := cond_t hb h
        exact lff_of h
      · have h := cond_f hb h
        obtain ⟨q5, h⟩ := bget hx5 h
        refine ⟨s_table_Table_Do_4 (d + 0) q5, ?_⟩
        refine ⟨by decide, ?_⟩
        obtain ⟨q6, h⟩ := bget hx6 h
        refine ⟨s_session_Sessions_Note_2 (d + 5) q6, ?_⟩
        refine ⟨by decide, ?_⟩
        exact lff_of h

/- osmosis/osmosislaw8.put -/
def osmosislaw8_put (client : Int) (seq : Int) (key : List UInt8) (value : List UInt8) : Option (api_Req) :=
  some (⟨client, seq, (⟨2, key, value, ([] : List UInt8)⟩ : api_Op)⟩ : api_Req)
def out_osmosislaw8_put (client : Int) (seq : Int) (key : List UInt8) (value : List UInt8) (r : api_Req) : AV × WH := ((.agg (e_api_Req r)), [])

theorem s_osmosislaw8_put (d : Nat) {client : Int} {seq : Int} {key : List UInt8} {value : List UInt8} {r : api_Req} (h : osmosislaw8_put client seq key value = some r) : Spec (wcalls atab (d + 1)) 70 [(.int .i64 client), (.int .i64 seq), (.str key), (.str value)] [] (out_osmosislaw8_put client seq key value r).1 (out_osmosislaw8_put client seq key value r).2 := by
  have e : ∀ C : ACalls, wBody C (fun _ => none) KK WF70 [(.int .i64 client), (.int .i64 seq), (.str key), (.str value)] [] (.st none (.fin (some false) [] none)) (out_osmosislaw8_put client seq key value r).1 (out_osmosislaw8_put client seq key value r).2 = (4 = 4 ∧ 4 ≤ 15 ∧ lff (out_osmosislaw8_put client seq key value) (⟨client, seq, (⟨2, key, value, ([] : List UInt8)⟩ : api_Op)⟩ : api_Req) r) := fun C => by kernel_rfl
  refine spec_of (fun _ _ h => by cases h) rfl atab_70 WF70_ok ((e _).mpr ⟨rfl, by decide, ?_⟩)
  unfold osmosislaw8_put at h
  exact lff_of h

/- (*osmosis/table.Table).Pairs -/
def table_Table_Pairs_3 (t : shard_Shard) : Option (List api_Pair) :=
  gd (fitsB 32 t.Table.l.length) (some t.Table.l)
def out_table_Table_Pairs_3 (t : shard_Shard) (r : List api_Pair) : AV × WH := ((l_api_Pair r), [(some (.cells (e_shard_Shard t) false false))])

theorem s_table_Table_Pairs_3 (d : Nat) {t : shard_Shard} {r : List api_Pair} (h : table_Table_Pairs_3 t = some r) : Spec (wcalls atab (d + 2)) 54 [(.ptr (some (0, 0)))] [(some (.cells (e_shard_Shard t) false false))] (out_table_Table_Pairs_3 t r).1 (out_table_Table_Pairs_3 t r).2 := by
  have e : ∀ C : ACalls, wBody C wB KK WF54 [(.ptr (some (0, 0)))] [(some (.cells (e_shard_Shard t) false false))] (.z 2 [.slice none 2 0 0 true] (.fin (some false) [.slice none 2 0 0 true] none)) (out_table_Table_Pairs_3 t r).1 (out_table_Table_Pairs_3 t r).2 = (1 = 1 ∧ 1 ≤ 9 ∧ (fitsB 32 t.Table.l.length = true ∧ lff (out_table_Table_Pairs_3 t) t.Table.l r)) := fun C => by kernel_rfl
  refine spec_of (wB_ok _) rfl atab_54 WF54_ok ((e _).mpr ⟨rfl, by decide, ?_⟩)
  unfold table_Table_Pairs_3 at h
  obtain ⟨q1, h⟩ := gd_some h
  refine ⟨q1, ?_⟩
  exact lff_of h

/- (*osmosis/session.Sessions).All -/
def st_session_Sessions_All_L0 (p_s : shard_Shard) (s5 : Int × List api_Sess) : List AV × WH := ([(.acc 1 0 4 s5.2.length true), (.agg (e_session_Sessions p_s.Sessions)), (.int .i64 s5.1)], [(some (.cells (e_shard_Shard p_s) false false)), (some (.cells (F_api_Sess s5.2) false true))])
def fin_session_Sessions_All_L0 (p_s : shard_Shard) : (List api_Sess) → Ex × Fast × WH := fun e => ((.exit 0), [(3, (.acc 1 0 4 e.length true))], [(some (.cells (e_shard_Shard p_s) false false)), (some (.cells (F_api_Sess e) false true))])
abbrev rx_session_Sessions_All_L0 (p_s : shard_Shard) := roundX [3, 9, 10] (st_session_Sessions_All_L0 p_s) (fin_session_Sessions_All_L0 p_s)
def session_Sessions_All_L0_s (p_s : shard_Shard) (s5 : Int × List api_Sess) : Option ((Int × List api_Sess) ⊕ ((List api_Sess))) :=
  cond (decide (s5.1 < 4)) ((getI ([p_s.Sessions.l.a0, p_s.Sessions.l.a1, p_s.Sessions.l.a2, p_s.Sessions.l.a3] : List api_Sess) s5.1).bind fun (x6 : api_Sess) => cond (decide (x6.Seq > 0)) (gd (fitsB 40 (s5.2 ++ [x6]).length) (some (.inl ((IntKind.i64.wrap (s5.1 + 1)), (s5.2 ++ [x6]))))) (some (.inl ((IntKind.i64.wrap (s5.1 + 1)), s5.2)))) (some (.inr s5.2))
def session_Sessions_All_L0 (p_s : shard_Shard) (s5 : Int × List api_Sess) : Option ((List api_Sess)) := loopX (session_Sessions_All_L0_s p_s) KK s5
theorem b_session_Sessions_All_L0 (d : Nat) {p_s : shard_Shard} {s5 : Int × List api_Sess} {r : (Int × List api_Sess) ⊕ ((List api_Sess))} (h : session_Sessions_All_L0_s p_s s5 = some r) : RunX (bexec (wcalls atab (d + 0)) KK 23 WB107_0) 1 (inL [3, 9, 10] (st_session_Sessions_All_L0 p_s s5)) (rx_session_Sessions_All_L0 p_s r) := by
  obtain ⟨x6, hx6⟩ := wx (getI ([p_s.Sessions.l.a0, p_s.Sessions.l.a1, p_s.Sessions.l.a2, p_s.Sessions.l.a3] : List api_Sess) s5.1)
  have e : ∀ C : ACalls, wCode C (fun _ => none) KK 23 1 WB107_0 (inL [3, 9, 10] (st_session_Sessions_All_L0 p_s s5)).1 (inL [3, 9, 10] (st_session_Sessions_All_L0 p_s s5)).2 (.br 11 (.v 12 (.agg (e_api_Sess x6)) (.st none (.br 15 (.ap 19 (s5.2 ++ [x6]).length (F_api_Sess (s5.2 ++ [x6])) (.en [3, 9, 10] [none, none, none] [] [.slice none 4 0 0 true, .undef, .undef])) (.en [3, 9, 10] [none, none, none] [] [.slice none 4 0 0 true, .undef, .undef])))) (.en [3] [none] [] [.slice none 4 0 0 true])) (rx_session_Sessions_All_L0 p_s r) = (((decide (s5.1 < 4)) = true → (wP (.index true 4 4 (.c (.agg (F_api_Sess ([p_s.Sessions.l.a0, p_s.Sessions.l.a1, p_s.Sessions.l.a2, p_s.Sessions.l.a3])))) (.c (.int .i64 s5.1))) = some (.agg (e_api_Sess x6)) ∧ (((decide (x6.Seq > 0)) = true → (s5.2.length + 1 = (s5.2 ++ [x6]).length ∧ (F_api_Sess s5.2 ++ F_api_Sess [x6] = F_api_Sess (s5.2 ++ [x6]) ∧ (fitsB 40 (s5.2 ++ [x6]).length = true ∧ lfe (rx_session_Sessions_All_L0 p_s) (.inl ((IntKind.i64.wrap (s5.1 + 1)), (s5.2 ++ [x6]))) r)))) ∧ ((decide (x6.Seq > 0)) = false → lfe (rx_session_Sessions_All_L0 p_s) (.inl ((IntKind.i64.wrap (s5.1 + 1)), s5.2)) r)))) ∧ ((decide (s5.1 < 4)) = false → lfe (rx_session_Sessions_All_L0 p_s) (.inr s5.2) r)) := fun C => by kernel_rfl
  refine runS_of (fun _ _ h => by cases h) WB107_0_ok (Nat.le_of_ble_eq_true rfl) ((e _).mpr ?_)
  unfold session_Sessions_All_L0_s at h
  refine ⟨fun hb => ?_, fun hb => ?_⟩
  · have h := cond_t hb h
    obtain ⟨q6, h⟩ := bget hx6 h
    refine ⟨wP_ixA R_api_Sess q6, ?_⟩
    refine ⟨fun hb => ?_, fun hb => ?_⟩
    · have h := cond_t hb h
      obtain ⟨q7, h⟩ := gd_some h
      refine ⟨by simp, ?_⟩
      refine ⟨(Row.app R_api_Sess _ _).symm, ?_⟩
      refine ⟨q7, ?_⟩
      exact lfe_of h
    · have h := cond_f hb h
      exact lfe_of h
  · have h := cond_f hb h
    exact lfe_of h
theorem s_session_Sessions_All_L0 (d : Nat) {p_s : shard_Shard} {s5 : Int × List api_Sess} {r : (List api_Sess)} (h : session_Sessions_All_L0 p_s s5 = some r) : RunX (bloop (bexec (wcalls atab (d + 0)) KK 23 WB107_0) [3, 9, 10] KK) 1 (inL [3, 9, 10] (st_session_Sessions_All_L0 p_s s5)) (fin_session_Sessions_All_L0 p_s r) :=
  loop_of (st := st_session_Sessions_All_L0 p_s) (fin := fin_session_Sessions_All_L0 p_s) (step := session_Sessions_All_L0_s p_s) (fun e => by (intro h; cases h)) (fun s x h => b_session_Sessions_All_L0 d h) KK s5 r h

def session_Sessions_All (p_s : shard_Shard) : Option (List api_Sess) :=
  (session_Sessions_All_L0 p_s (0, [])).bind fun (x8 : (List api_Sess)) => some x8
def out_session_Sessions_All (p_s : shard_Shard) (r : List api_Sess) : AV × WH := ((l_api_Sess r), [(some (.cells (e_shard_Shard p_s) false false))])

theorem s_session_Sessions_All (d : Nat) {p_s : shard_Shard} {r : List api_Sess} (h : session_Sessions_All p_s = some r) : Spec (wcalls atab (d + 2)) 107 [(.ptr (some (0, 1)))] [(some (.cells (e_shard_Shard p_s) false false))] (out_session_Sessions_All p_s r).1 (out_session_Sessions_All p_s r).2 := by
  obtain ⟨x8, hx8⟩ := wx (session_Sessions_All_L0 p_s (0, []))
  have e : ∀ C : ACalls, wBody C wB KK WF107 [(.ptr (some (0, 1)))] [(some (.cells (e_shard_Shard p_s) false false))] (.z 2 [.slice none 4 0 0 true] (.z 3 [.slice none 4 0 0 true] (.lp [(some true), none, none] [] [.slice none 4 0 0 true, .undef, .undef] (.exit 0) [(3, (.acc 1 0 4 x8.length true))] [(some (.cells (e_shard_Shard p_s) false false)), (some (.cells (F_api_Sess x8) false true))] (.fin (some false) [.slice none 4 0 0 true] none)))) (out_session_Sessions_All p_s r).1 (out_session_Sessions_All p_s r).2 = (1 = 1 ∧ 1 ≤ 23 ∧ (RunS (bloop (bexec C KK 23 WB107_0) [3, 9, 10] KK) 1 [(3, (.acc 1 0 4 0 true)), (9, (.agg (e_session_Sessions p_s.Sessions))), (10, (.int .i64 0))] [(some (.cells (e_shard_Shard p_s) false false)), (some (.cells (F_api_Sess []) false true))] (.exit 0) [(3, (.acc 1 0 4 x8.length true))] [(some (.cells (e_shard_Shard p_s) false false)), (some (.cells (F_api_Sess x8) false true))] ∧ lff (out_session_Sessions_All p_s) x8 r)) := fun C => by kernel_rfl
  refine spec_of (wB_ok _) rfl atab_107 WF107_ok ((e _).mpr ⟨rfl, by decide, ?_⟩)
  unfold session_Sessions_All at h
  obtain ⟨q8, h⟩ := bget hx8 h
  refine ⟨s_session_Sessions_All_L0 (d + 1) q8, ?_⟩
  exact lff_of h

/- (*osmosis/shard.Shard).Image -/
def shard_Shard_Image (p_s : shard_Shard) : Option (api_Image) :=
  (table_Table_Pairs_3 p_s).bind fun (x1 : List api_Pair) => (session_Sessions_All p_s).bind fun (x2 : List api_Sess) => some (⟨p_s.ID, p_s.Epoch, x1, x2⟩ : api_Image)
def out_shard_Shard_Image (p_s : shard_Shard) (r : api_Image) : AV × WH := ((.agg (e_api_Image r)), [(some (.cells (e_shard_Shard p_s) false false))])

theorem s_shard_Shard_Image (d : Nat) {p_s : shard_Shard} {r : api_Image} (h : shard_Shard_Image p_s = some r) : Spec (wcalls atab (d + 3)) 67 [(.ptr (some (0, 0)))] [(some (.cells (e_shard_Shard p_s) false false))] (out_shard_Shard_Image p_s r).1 (out_shard_Shard_Image p_s r).2 := by
  obtain ⟨x1, hx1⟩ := wx (table_Table_Pairs_3 p_s)
  obtain ⟨x2, hx2⟩ := wx (session_Sessions_All p_s)
  have e : ∀ C : ACalls, wBody C (fun _ => none) KK WF67 [(.ptr (some (0, 0)))] [(some (.cells (e_shard_Shard p_s) false false))] (.z 2 [.undef, .undef, .slice none 2 0 0 true, .slice none 4 0 0 true] (.call [] (some false) [] (l_api_Pair x1) [(some (.cells (e_shard_Shard p_s) false false))] (.call [] (some false) [] (l_api_Sess x2) [(some (.cells (e_shard_Shard p_s) false false))] (.v 6 (.int .i64 p_s.ID) (.v 10 (.int .i64 p_s.Epoch) (.st none (.fin (some false) [.agg [.undef, .undef, .slice none 2 0 0 true, .slice none 4 0 0 true]] none))))))) (out_shard_Shard_Image p_s r).1 (out_shard_Shard_Image p_s r).2 = (1 = 1 ∧ 1 ≤ 20 ∧ (Spec C 54 [(.ptr (some (0, 0)))] [(some (.cells (e_shard_Shard p_s) false false))] (l_api_Pair x1) [(some (.cells (e_shard_Shard p_s) false false))] ∧ (1 ≤ 1 ∧ (Spec C 107 [(.ptr (some (0, 1)))] [(some (.cells (e_shard_Shard p_s) false false))] (l_api_Sess x2) [(some (.cells (e_shard_Shard p_s) false false))] ∧ (1 ≤ 1 ∧ (@Eq (Option AV) (some (.int .i64 p_s.ID)) (some (.int .i64 p_s.ID)) ∧ (@Eq (Option AV) (some (.int .i64 p_s.ID)) (some (.int .i64 p_s.ID)) ∧ (@Eq (Option AV) (some (.int .i64 p_s.ID)) (some (.int .i64 p_s.ID)) ∧ (@Eq (Option AV) (some (.int .i64 p_s.Epoch)) (some (.int .i64 p_s.Epoch)) ∧ (@Eq (Option AV) (some (.int .i64 p_s.Epoch)) (some (.int .i64 p_s.Epoch)) ∧ (@Eq (Option AV) (some (.int .i64 p_s.Epoch)) (some (.int .i64 p_s.Epoch)) ∧ lff (out_shard_Shard_Image p_s) (⟨p_s.ID, p_s.Epoch, x1, x2⟩ : api_Image) r))))))))))) := fun C => by kernel_rfl
  refine spec_of (fun _ _ h => by cases h) rfl atab_67 WF67_ok ((e _).mpr ⟨rfl, by decide, ?_⟩)
  unfold shard_Shard_Image at h
  obtain ⟨q1, h⟩ := bget hx1 h
  refine ⟨s_table_Table_Pairs_3 (d + 0) q1, ?_⟩
  refine ⟨by decide, ?_⟩
  obtain ⟨q2, h⟩ := bget hx2 h
  refine ⟨s_session_Sessions_All (d + 0) q2, ?_⟩
  refine ⟨by decide, ?_⟩
  refine ⟨rfl, ?_⟩
  refine ⟨rfl, ?_⟩
  refine ⟨rfl, ?_⟩
  refine ⟨rfl, ?_⟩
  refine ⟨rfl, ?_⟩
  refine ⟨rfl, ?_⟩
  exact lff_of h

/- (*osmosis/table.Table).Len -/
def table_Table_Len_3 (t : shard_Shard) : Option (Int) :=
  some (t.Table.l.length : Int)
def out_table_Table_Len_3 (t : shard_Shard) (r : Int) : AV × WH := ((.int .i64 r), [(some (.cells (e_shard_Shard t) false false))])

theorem s_table_Table_Len_3 (d : Nat) {t : shard_Shard} {r : Int} (h : table_Table_Len_3 t = some r) : Spec (wcalls atab (d + 1)) 53 [(.ptr (some (0, 0)))] [(some (.cells (e_shard_Shard t) false false))] (out_table_Table_Len_3 t r).1 (out_table_Table_Len_3 t r).2 := by
  have e : ∀ C : ACalls, wBody C (fun _ => none) KK WF53 [(.ptr (some (0, 0)))] [(some (.cells (e_shard_Shard t) false false))] (.fin (some false) [] none) (out_table_Table_Len_3 t r).1 (out_table_Table_Len_3 t r).2 = (1 = 1 ∧ 1 ≤ 8 ∧ lff (out_table_Table_Len_3 t) (t.Table.l.length : Int) r) := fun C => by kernel_rfl
  refine spec_of (fun _ _ h => by cases h) rfl atab_53 WF53_ok ((e _).mpr ⟨rfl, by decide, ?_⟩)
  unfold table_Table_Len_3 at h
  exact lff_of h

/- (*osmosis/shard.Shard).Weight -/
def shard_Shard_Weight (p_s : shard_Shard) : Option (Int) :=
  (table_Table_Len_3 p_s).bind fun (x1 : Int) => some (IntKind.i64.wrap (x1 + 1))
def out_shard_Shard_Weight (p_s : shard_Shard) (r : Int) : AV × WH := ((.int .i64 r), [(some (.cells (e_shard_Shard p_s) false false))])

theorem s_shard_Shard_Weight (d : Nat) {p_s : shard_Shard} {r : Int} (h : shard_Shard_Weight p_s = some r) : Spec (wcalls atab (d + 2)) 71 [(.ptr (some (0, 0)))] [(some (.cells (e_shard_Shard p_s) false false))] (out_shard_Shard_Weight p_s r).1 (out_shard_Shard_Weight p_s r).2 := by
  obtain ⟨x1, hx1⟩ := wx (table_Table_Len_3 p_s)
  have e : ∀ C : ACalls, wBody C (fun _ => none) KK WF71 [(.ptr (some (0, 0)))] [(some (.cells (e_shard_Shard p_s) false false))] (.call [] (some false) [] (.int .i64 x1) [(some (.cells (e_shard_Shard p_s) false false))] (.fin (some false) [] none)) (out_shard_Shard_Weight p_s r).1 (out_shard_Shard_Weight p_s r).2 = (1 = 1 ∧ 1 ≤ 8 ∧ (Spec C 53 [(.ptr (some (0, 0)))] [(some (.cells (e_shard_Shard p_s) false false))] (.int .i64 x1) [(some (.cells (e_shard_Shard p_s) false false))] ∧ (1 ≤ 1 ∧ lff (out_shard_Shard_Weight p_s) (IntKind.i64.wrap (x1 + 1)) r))) := fun C => by kernel_rfl
  refine spec_of (fun _ _ h => by cases h) rfl atab_71 WF71_ok ((e _).mpr ⟨rfl, by decide, ?_⟩)
  unfold shard_Shard_Weight at h
  obtain ⟨q1, h⟩ := bget hx1 h
  refine ⟨s_table_Table_Len_3 (d + 0) q1, ?_⟩
  refine ⟨by decide, ?_⟩
  exact lff_of h

/- osmosis/osmosislaw8.known -/
def osmosislaw8_known  : Option (Bool) :=
  (shard_Of (⟨2, 3, [], []⟩ : api_Image)).bind fun (x1 : shard_Shard) => (osmosislaw8_put 0 1 [107] [118]).bind fun (x2 : api_Req) => (shard_Shard_Ask x2 x1).bind fun (x3 : api_Answer × Bool × shard_Shard) => (osmosislaw8_put 0 1 [107] ([111, 116, 104, 101, 114])).bind fun (x4 : api_Req) => (shard_Shard_Ask x4 x3.2.2).bind fun (x5 : api_Answer × Bool × shard_Shard) => cond (x3.1.Why == x5.1.Why && (x3.1.Value == x5.1.Value && true)) (cond x3.2.1 (cond (!x5.2.1) ((shard_Shard_Weight x5.2.2).bind fun (x6 : Int) => cond (x6 == 2) (cond (x5.2.2.ID == 2) (cond (x5.2.2.Epoch == 3) ((table_Table_Len_3 x5.2.2).bind fun (x7 : Int) => some (x7 == 1)) (some false)) (some false)) (some false)) (some false)) (some false)) (some false)
def out_osmosislaw8_known (r : Bool) : AV × WH := ((.bool r), [])

theorem s_osmosislaw8_known (d : Nat)  {r : Bool} (h : osmosislaw8_known = some r) : Spec (wcalls atab (d + 9)) 69 [] [] (out_osmosislaw8_known r).1 (out_osmosislaw8_known r).2 := by
  obtain ⟨x1, hx1⟩ := wx (shard_Of (⟨2, 3, [], []⟩ : api_Image))
  obtain ⟨x2, hx2⟩ := wx (osmosislaw8_put 0 1 [107] [118])
  obtain ⟨x3, hx3⟩ := wx (shard_Shard_Ask x2 x1)
  obtain ⟨x4, hx4⟩ := wx (osmosislaw8_put 0 1 [107] ([111, 116, 104, 101, 114]))
  obtain ⟨x5, hx5⟩ := wx (shard_Shard_Ask x4 x3.2.2)
  obtain ⟨x6, hx6⟩ := wx (shard_Shard_Weight x5.2.2)
  obtain ⟨x7, hx7⟩ := wx (table_Table_Len_3 x5.2.2)
  have e : ∀ C : ACalls, wBody C (fun _ => none) KK WF69 [] [] (.z 6 [.agg [.undef, .undef, .slice none 2 0 0 true, .slice none 4 0 0 true]] (.call [] (some false) [.agg [.undef, .undef, .slice none 2 0 0 true, .slice none 4 0 0 true]] (.agg (e_shard_Shard x1)) [] (.z 1 [.slice none 2 0 0 true, .undef, .undef, .undef, .undef, .undef, .undef, .undef, .undef, .undef, .undef, .undef, .undef, .undef, .undef, .undef, .undef, .undef, .undef] (.st none (.cb [] [] (.agg (e_api_Req x2)) (.call [] (some false) [] (.tuple [(.agg (e_api_Answer x3.1)), (.bool x3.2.1)]) [(some (.cells (e_shard_Shard x3.2.2) false false))] (.st none (.cb [] [] (.agg (e_api_Req x4)) (.call [] (some false) [] (.tuple [(.agg (e_api_Answer x5.1)), (.bool x5.2.1)]) [(some (.cells (e_shard_Shard x5.2.2) false false))] (.st none (.br 21 (.br 24 (.br 28 (.call [] (some false) [] (.int .i64 x6) [(some (.cells (e_shard_Shard x5.2.2) false false))] (.br 32 (.br 37 (.br 42 (.call [] (some false) [] (.int .i64 x7) [(some (.cells (e_shard_Shard x5.2.2) false false))] (.fin (some false) [] none)) (.fin (some false) [] none)) (.fin (some false) [] none)) (.fin (some false) [] none))) (.fin (some false) [] none)) (.fin (some false) [] none)) (.fin (some false) [] none)))))))))))) (out_osmosislaw8_known r).1 (out_osmosislaw8_known r).2 = (0 = 0 ∧ 0 ≤ 47 ∧ (Spec C 65 [(.agg (e_api_Image (⟨2, 3, [], []⟩ : api_Image)))] [] (.agg (e_shard_Shard x1)) [] ∧ (0 ≤ 0 ∧ (Spec C 70 [(.int .i64 0), (.int .i64 1), (.str [107]), (.str [118])] [] (.agg (e_api_Req x2)) [] ∧ (Spec C 66 [(.ptr (some (0, 0))), (.agg (e_api_Req x2))] [(some (.cells (e_shard_Shard x1) false false))] (.tuple [(.agg (e_api_Answer x3.1)), (.bool x3.2.1)]) [(some (.cells (e_shard_Shard x3.2.2) false false))] ∧ (1 ≤ 1 ∧ (Spec C 70 [(.int .i64 0), (.int .i64 1), (.str [107]), (.str ([111, 116, 104, 101, 114]))] [] (.agg (e_api_Req x4)) [] ∧ (Spec C 66 [(.ptr (some (0, 0))), (.agg (e_api_Req x4))] [(some (.cells (e_shard_Shard x3.2.2) false false))] (.tuple [(.agg (e_api_Answer x5.1)), (.bool x5.2.1)]) [(some (.cells (e_shard_Shard x5.2.2) false false))] ∧ (1 ≤ 1 ∧ (((x3.1.Why == x5.1.Why && (x3.1.Value == x5.1.Value && true)) = true → ((x3.2.1 = true → (((!x5.2.1) = true → (Spec C 71 [(.ptr (some (0, 0)))] [(some (.cells (e_shard_Shard x5.2.2) false false))] (.int .i64 x6) [(some (.cells (e_shard_Shard x5.2.2) false false))] ∧ (1 ≤ 1 ∧ (((x6 == 2) = true → (((x5.2.2.ID == 2) = true → (((x5.2.2.Epoch == 3) = true → (Spec C 53 [(.ptr (some (0, 0)))] [(some (.cells (e_shard_Shard x5.2.2) false false))] (.int .i64 x7) [(some (.cells (e_shard_Shard x5.2.2) false false))] ∧ (1 ≤ 1 ∧ lff out_osmosislaw8_known (x7 == 1) r))) ∧ ((x5.2.2.Epoch == 3) = false → lff out_osmosislaw8_known false r))) ∧ ((x5.2.2.ID == 2) = false → lff out_osmosislaw8_known false r))) ∧ ((x6 == 2) = false → lff out_osmosislaw8_known false r))))) ∧ ((!x5.2.1) = false → lff out_osmosislaw8_known false r))) ∧ (x3.2.1 = false → lff out_osmosislaw8_known false r))) ∧ ((x3.1.Why == x5.1.Why && (x3.1.Value == x5.1.Value && true)) = false → lff out_osmosislaw8_known false r))))))))))) := fun C => by kernel_rfl
  refine spec_of (fun _ _ h => by cases h) rfl atab_69 WF69_ok ((e _).mpr ⟨rfl, by decide, ?_⟩)
  unfold osmosislaw8_known at h
  obtain ⟨q1, h⟩ := bget hx1 h
  refine ⟨s_shard_Of (d + 0) q1, ?_⟩
  refine ⟨by decide, ?_⟩
  obtain ⟨q2, h⟩ := bget hx2 h
  refine ⟨s_osmosislaw8_put (d + 7) q2, ?_⟩
  obtain ⟨q3, h⟩ := bget hx3 h
  refine ⟨s_shard_Shard_Ask (d + 1) q3, ?_⟩
  refine ⟨by decide, ?_⟩
  obtain ⟨q4, h⟩ := bget hx4 h
  refine ⟨s_osmosislaw8_put (d + 7) q4, ?_⟩
  obtain ⟨q5, h⟩ := bget hx5 h
  refine ⟨s_shard_Shard_Ask (d + 1) q5, ?_⟩
  refine ⟨by decide, ?_⟩
  refine ⟨fun hb => ?_, fun hb => ?_⟩
  · have h := cond_t hb h
    refine ⟨fun hb => ?_, fun hb => ?_⟩
    · have h := cond_t hb h
      refine ⟨fun hb => ?_, fun hb => ?_⟩
      · have h := cond_t hb h
        obtain ⟨q6, h⟩ := bget hx6 h
        refine ⟨s_shard_Shard_Weight (d + 6) q6, ?_⟩
        refine ⟨by decide, ?_⟩
        refine ⟨fun hb => ?_, fun hb => ?_⟩
        · have h := cond_t hb h
          refine ⟨fun hb => ?_, fun hb => ?_⟩
          · have h := cond_t hb h
            refine ⟨fun hb => ?_, fun hb => ?_⟩
            · have h := cond_t hb h
              obtain ⟨q7, h⟩ := bget hx7 h
              refine ⟨s_table_Table_Len_3 (d + 7) q7, ?_⟩
              refine ⟨by decide, ?_⟩
              exact lff_of h
            · have h := cond_f hb h
              exact lff_of h
          · have h := cond_f hb h
            exact lff_of h
        · have h := cond_f hb h
          exact lff_of h
      · have h := cond_f hb h
        exact lff_of h
    · have h := cond_f hb h
      exact lff_of h
  · have h := cond_f hb h
    exact lff_of h

/- (*osmosis/table.Table).Pairs -/
def table_Table_Pairs_4 (t : shard_Shard) : Option (List api_Pair) :=
  gd (fitsB 32 t.Table.l.length) (some t.Table.l)
def out_table_Table_Pairs_4 (t : shard_Shard) (r : List api_Pair) : AV × WH := ((.acc 1 0 2 r.length true), [(some (.cells (e_shard_Shard t) false false)), (some (.cells (F_api_Pair r) false true))])

theorem s_table_Table_Pairs_4 (d : Nat) {t : shard_Shard} {r : List api_Pair} (h : table_Table_Pairs_4 t = some r) : Spec (wcalls atab (d + 2)) 54 [(.ptr (some (0, 0)))] [(some (.cells (e_shard_Shard t) false false))] (out_table_Table_Pairs_4 t r).1 (out_table_Table_Pairs_4 t r).2 := by
  have e : ∀ C : ACalls, wBody C wB KK WF54 [(.ptr (some (0, 0)))] [(some (.cells (e_shard_Shard t) false false))] (.z 2 [.slice none 2 0 0 true] (.fin none [.slice none 2 0 0 true] none)) (out_table_Table_Pairs_4 t r).1 (out_table_Table_Pairs_4 t r).2 = (1 = 1 ∧ 1 ≤ 9 ∧ (fitsB 32 t.Table.l.length = true ∧ lff (out_table_Table_Pairs_4 t) t.Table.l r)) := fun C => by kernel_rfl
  refine spec_of (wB_ok _) rfl atab_54 WF54_ok ((e _).mpr ⟨rfl, by decide, ?_⟩)
  unfold table_Table_Pairs_4 at h
  obtain ⟨q1, h⟩ := gd_some h
  refine ⟨q1, ?_⟩
  exact lff_of h

/- (*osmosis/session.Sessions).All -/
def st_session_Sessions_All_2_L0 (p_s : shard_Shard) (s5 : Int × List api_Sess) : List AV × WH := ([(.acc 1 0 4 s5.2.length true), (.agg (e_session_Sessions p_s.Sessions)), (.int .i64 s5.1)], [(some (.cells (e_shard_Shard p_s) false false)), (some (.cells (F_api_Sess s5.2) false true))])
def fin_session_Sessions_All_2_L0 (p_s : shard_Shard) : (List api_Sess) → Ex × Fast × WH := fun e => ((.exit 0), [(3, (.acc 1 0 4 e.length true))], [(some (.cells (e_shard_Shard p_s) false false)), (some (.cells (F_api_Sess e) false true))])
abbrev rx_session_Sessions_All_2_L0 (p_s : shard_Shard) := roundX [3, 9, 10] (st_session_Sessions_All_2_L0 p_s) (fin_session_Sessions_All_2_L0 p_s)
def session_Sessions_All_2_L0_s (p_s : shard_Shard) (s5 : Int × List api_Sess) : Option ((Int × List api_Sess) ⊕ ((List api_Sess))) :=
  cond (decide (s5.1 < 4)) ((getI ([p_s.Sessions.l.a0, p_s.Sessions.l.a1, p_s.Sessions.l.a2, p_s.Sessions.l.a3] : List api_Sess) s5.1).bind fun (x6 : api_Sess) => cond (decide (x6.Seq > 0)) (gd (fitsB 40 (s5.2 ++ [x6]).length) (some (.inl ((IntKind.i64.wrap (s5.1 + 1)), (s5.2 ++ [x6]))))) (some (.inl ((IntKind.i64.wrap (s5.1 + 1)), s5.2)))) (some (.inr s5.2))
def session_Sessions_All_2_L0 (p_s : shard_Shard) (s5 : Int × List api_Sess) : Option ((List api_Sess)) := loopX (session_Sessions_All_2_L0_s p_s) KK s5
theorem b_session_Sessions_All_2_L0 (d : Nat) {p_s : shard_Shard} {s5 : Int × List api_Sess} {r : (Int × List api_Sess) ⊕ ((List api_Sess))} (h : session_Sessions_All_2_L0_s p_s s5 = some r) : RunX (bexec (wcalls atab (d + 0)) KK 23 WB107_0) 1 (inL [3, 9, 10] (st_session_Sessions_All_2_L0 p_s s5)) (rx_session_Sessions_All_2_L0 p_s r) := by
  obtain ⟨x6, hx6⟩ := wx (getI ([p_s.Sessions.l.a0, p_s.Sessions.l.a1, p_s.Sessions.l.a2, p_s.Sessions.l.a3] : List api_Sess) s5.1)
  have e : ∀ C : ACalls, wCode C (fun _ => none) KK 23 1 WB107_0 (inL [3, 9, 10] (st_session_Sessions_All_2_L0 p_s s5)).1 (inL [3, 9, 10] (st_session_Sessions_All_2_L0 p_s s5)).2 (.br 11 (.v 12 (.agg (e_api_Sess x6)) (.st none (.br 15 (.ap 19 (s5.2 ++ [x6]).length (F_api_Sess (s5.2 ++ [x6])) (.en [3, 9, 10] [none, none, none] [] [.slice none 4 0 0 true, .undef, .undef])) (.en [3, 9, 10] [none, none, none] [] [.slice none 4 0 0 true, .undef, .undef])))) (.en [3] [none] [] [.slice none 4 0 0 true])) (rx_session_Sessions_All_2_L0 p_s r) = (((decide (s5.1 < 4)) = true → (wP (.index true 4 4 (.c (.agg (F_api_Sess ([p_s.Sessions.l.a0, p_s.Sessions.l.a1, p_s.Sessions.l.a2, p_s.Sessions.l.a3])))) (.c (.int .i64 s5.1))) = some (.agg (e_api_Sess x6)) ∧ (((decide (x6.Seq > 0)) = true → (s5.2.length + 1 = (s5.2 ++ [x6]).length ∧ (F_api_Sess s5.2 ++ F_api_Sess [x6] = F_api_Sess (s5.2 ++ [x6]) ∧ (fitsB 40 (s5.2 ++ [x6]).length = true ∧ lfe (rx_session_Sessions_All_2_L0 p_s) (.inl ((IntKind.i64.wrap (s5.1 + 1)), (s5.2 ++ [x6]))) r)))) ∧ ((decide (x6.Seq > 0)) = false → lfe (rx_session_Sessions_All_2_L0 p_s) (.inl ((IntKind.i64.wrap (s5.1 + 1)), s5.2)) r)))) ∧ ((decide (s5.1 < 4)) = false → lfe (rx_session_Sessions_All_2_L0 p_s) (.inr s5.2) r)) := fun C => by kernel_rfl
  refine runS_of (fun _ _ h => by cases h) WB107_0_ok (Nat.le_of_ble_eq_true rfl) ((e _).mpr ?_)
  unfold session_Sessions_All_2_L0_s at h
  refine ⟨fun hb => ?_, fun hb => ?_⟩
  · have h := cond_t hb h
    obtain ⟨q6, h⟩ := bget hx6 h
    refine ⟨wP_ixA R_api_Sess q6, ?_⟩
    refine ⟨fun hb => ?_, fun hb => ?_⟩
    · have h := cond_t hb h
      obtain ⟨q7, h⟩ := gd_some h
      refine ⟨by simp, ?_⟩
      refine ⟨(Row.app R_api_Sess _ _).symm, ?_⟩
      refine ⟨q7, ?_⟩
      exact lfe_of h
    · have h := cond_f hb h
      exact lfe_of h
  · have h := cond_f hb h
    exact lfe_of h
theorem s_session_Sessions_All_2_L0 (d : Nat) {p_s : shard_Shard} {s5 : Int × List api_Sess} {r : (List api_Sess)} (h : session_Sessions_All_2_L0 p_s s5 = some r) : RunX (bloop (bexec (wcalls atab (d + 0)) KK 23 WB107_0) [3, 9, 10] KK) 1 (inL [3, 9, 10] (st_session_Sessions_All_2_L0 p_s s5)) (fin_session_Sessions_All_2_L0 p_s r) :=
  loop_of (st := st_session_Sessions_All_2_L0 p_s) (fin := fin_session_Sessions_All_2_L0 p_s) (step := session_Sessions_All_2_L0_s p_s) (fun e => by (intro h; cases h)) (fun s x h => b_session_Sessions_All_2_L0 d h) KK s5 r h

def session_Sessions_All_2 (p_s : shard_Shard) : Option (List api_Sess) :=
  (session_Sessions_All_2_L0 p_s (0, [])).bind fun (x8 : (List api_Sess)) => some x8
def out_session_Sessions_All_2 (p_s : shard_Shard) (r : List api_Sess) : AV × WH := ((.acc 1 0 4 r.length true), [(some (.cells (e_shard_Shard p_s) false false)), (some (.cells (F_api_Sess r) false true))])

theorem s_session_Sessions_All_2 (d : Nat) {p_s : shard_Shard} {r : List api_Sess} (h : session_Sessions_All_2 p_s = some r) : Spec (wcalls atab (d + 2)) 107 [(.ptr (some (0, 1)))] [(some (.cells (e_shard_Shard p_s) false false))] (out_session_Sessions_All_2 p_s r).1 (out_session_Sessions_All_2 p_s r).2 := by
  obtain ⟨x8, hx8⟩ := wx (session_Sessions_All_2_L0 p_s (0, []))
  have e : ∀ C : ACalls, wBody C wB KK WF107 [(.ptr (some (0, 1)))] [(some (.cells (e_shard_Shard p_s) false false))] (.z 2 [.slice none 4 0 0 true] (.z 3 [.slice none 4 0 0 true] (.lp [(some true), none, none] [] [.slice none 4 0 0 true, .undef, .undef] (.exit 0) [(3, (.acc 1 0 4 x8.length true))] [(some (.cells (e_shard_Shard p_s) false false)), (some (.cells (F_api_Sess x8) false true))] (.fin none [.slice none 4 0 0 true] none)))) (out_session_Sessions_All_2 p_s r).1 (out_session_Sessions_All_2 p_s r).2 = (1 = 1 ∧ 1 ≤ 23 ∧ (RunS (bloop (bexec C KK 23 WB107_0) [3, 9, 10] KK) 1 [(3, (.acc 1 0 4 0 true)), (9, (.agg (e_session_Sessions p_s.Sessions))), (10, (.int .i64 0))] [(some (.cells (e_shard_Shard p_s) false false)), (some (.cells (F_api_Sess []) false true))] (.exit 0) [(3, (.acc 1 0 4 x8.length true))] [(some (.cells (e_shard_Shard p_s) false false)), (some (.cells (F_api_Sess x8) false true))] ∧ lff (out_session_Sessions_All_2 p_s) x8 r)) := fun C => by kernel_rfl
  refine spec_of (wB_ok _) rfl atab_107 WF107_ok ((e _).mpr ⟨rfl, by decide, ?_⟩)
  unfold session_Sessions_All_2 at h
  obtain ⟨q8, h⟩ := bget hx8 h
  refine ⟨s_session_Sessions_All_2_L0 (d + 1) q8, ?_⟩
  exact lff_of h

/- (*osmosis/shard.Shard).Image -/
def shard_Shard_Image_2 (p_s : shard_Shard) : Option (Int × Int × List api_Pair × List api_Sess) :=
  (table_Table_Pairs_4 p_s).bind fun (x1 : List api_Pair) => (session_Sessions_All_2 p_s).bind fun (x2 : List api_Sess) => some (p_s.ID, p_s.Epoch, x1, x2)
def out_shard_Shard_Image_2 (p_s : shard_Shard) (r : Int × Int × List api_Pair × List api_Sess) : AV × WH := ((.agg [(.int .i64 r.1), (.int .i64 r.2.1), (.acc 1 0 2 r.2.2.1.length true), (.acc 2 0 4 r.2.2.2.length true)]), [(some (.cells (e_shard_Shard p_s) false false)), (some (.cells (F_api_Pair r.2.2.1) false true)), (some (.cells (F_api_Sess r.2.2.2) false true))])

theorem s_shard_Shard_Image_2 (d : Nat) {p_s : shard_Shard} {r : Int × Int × List api_Pair × List api_Sess} (h : shard_Shard_Image_2 p_s = some r) : Spec (wcalls atab (d + 3)) 67 [(.ptr (some (0, 0)))] [(some (.cells (e_shard_Shard p_s) false false))] (out_shard_Shard_Image_2 p_s r).1 (out_shard_Shard_Image_2 p_s r).2 := by
  obtain ⟨x1, hx1⟩ := wx (table_Table_Pairs_4 p_s)
  obtain ⟨x2, hx2⟩ := wx (session_Sessions_All_2 p_s)
  have e : ∀ C : ACalls, wBody C (fun _ => none) KK WF67 [(.ptr (some (0, 0)))] [(some (.cells (e_shard_Shard p_s) false false))] (.z 2 [.undef, .undef, .slice none 2 0 0 true, .slice none 4 0 0 true] (.call [(some false)] none [] (.acc 1 0 2 x1.length true) [(some (.cells (e_shard_Shard p_s) false false)), (some (.cells (F_api_Pair x1) false true))] (.call [(some false)] none [] (.acc 1 0 4 x2.length true) [(some (.cells (e_shard_Shard p_s) false false)), (some (.cells (F_api_Sess x2) false true))] (.v 6 (.int .i64 p_s.ID) (.v 10 (.int .i64 p_s.Epoch) (.st none (.fin none [.agg [.undef, .undef, .slice none 2 0 0 true, .slice none 4 0 0 true]] none))))))) (out_shard_Shard_Image_2 p_s r).1 (out_shard_Shard_Image_2 p_s r).2 = (1 = 1 ∧ 1 ≤ 20 ∧ (Spec C 54 [(.ptr (some (0, 0)))] [(some (.cells (e_shard_Shard p_s) false false))] (.acc 1 0 2 x1.length true) [(some (.cells (e_shard_Shard p_s) false false)), (some (.cells (F_api_Pair x1) false true))] ∧ (1 ≤ 2 ∧ (Spec C 107 [(.ptr (some (0, 1)))] [(some (.cells (e_shard_Shard p_s) false false))] (.acc 1 0 4 x2.length true) [(some (.cells (e_shard_Shard p_s) false false)), (some (.cells (F_api_Sess x2) false true))] ∧ (1 ≤ 2 ∧ (@Eq (Option AV) (some (.int .i64 p_s.ID)) (some (.int .i64 p_s.ID)) ∧ (@Eq (Option AV) (some (.int .i64 p_s.ID)) (some (.int .i64 p_s.ID)) ∧ (@Eq (Option AV) (some (.int .i64 p_s.ID)) (some (.int .i64 p_s.ID)) ∧ (@Eq (Option AV) (some (.int .i64 p_s.Epoch)) (some (.int .i64 p_s.Epoch)) ∧ (@Eq (Option AV) (some (.int .i64 p_s.Epoch)) (some (.int .i64 p_s.Epoch)) ∧ (@Eq (Option AV) (some (.int .i64 p_s.Epoch)) (some (.int .i64 p_s.Epoch)) ∧ lff (out_shard_Shard_Image_2 p_s) (p_s.ID, p_s.Epoch, x1, x2) r))))))))))) := fun C => by kernel_rfl
  refine spec_of (fun _ _ h => by cases h) rfl atab_67 WF67_ok ((e _).mpr ⟨rfl, by decide, ?_⟩)
  unfold shard_Shard_Image_2 at h
  obtain ⟨q1, h⟩ := bget hx1 h
  refine ⟨s_table_Table_Pairs_4 (d + 0) q1, ?_⟩
  refine ⟨by decide, ?_⟩
  obtain ⟨q2, h⟩ := bget hx2 h
  refine ⟨s_session_Sessions_All_2 (d + 0) q2, ?_⟩
  refine ⟨by decide, ?_⟩
  refine ⟨rfl, ?_⟩
  refine ⟨rfl, ?_⟩
  refine ⟨rfl, ?_⟩
  refine ⟨rfl, ?_⟩
  refine ⟨rfl, ?_⟩
  refine ⟨rfl, ?_⟩
  exact lff_of h

/- osmosis/osmosisref1.SameImage -/
abbrev in_osmosisref1_SameImage_J0 (a : api_Image) (p_b : api_Image) : Fast × WH := ([(2, (.ptr (some (0, 0)))), (3, (.ptr (some (1, 0))))], [(some (.cells (e_api_Image a) false false)), (some (.cells (e_api_Image p_b) false false))])
def fin_osmosisref1_SameImage_J0 (a : api_Image) (p_b : api_Image) : Unit ⊕ Unit → Ex × Fast × WH := fun
  | .inl e => (.ret, [(4, (.bool false))], [])
  | .inr e => (.normal, [(2, (.ptr (some (0, 0)))), (3, (.ptr (some (1, 0))))], [(some (.cells (e_api_Image a) false false)), (some (.cells (e_api_Image p_b) false false))])
def osmosisref1_SameImage_J0 (a : api_Image) (p_b : api_Image) : Option (Unit ⊕ Unit) :=
  cond (a.Shard != p_b.Shard) (some (.inl ())) (cond (a.Epoch != p_b.Epoch) (some (.inl ())) (cond ((a.Pairs.length : Int) != (p_b.Pairs.length : Int)) (some (.inl ())) (cond ((a.Sess.length : Int) != (p_b.Sess.length : Int)) (some (.inl ())) (some (.inr ())))))
theorem s_osmosisref1_SameImage_J0 (d : Nat) {a : api_Image} {p_b : api_Image} {r : Unit ⊕ Unit} (h : osmosisref1_SameImage_J0 a p_b = some r) : RunX (bexec (wcalls atab (d + 0)) KK 73 WJ68_ba) 0 (in_osmosisref1_SameImage_J0 a p_b) (fin_osmosisref1_SameImage_J0 a p_b r) := by
  have e : ∀ C : ACalls, wCode C (fun _ => none) KK 73 0 WJ68_ba (in_osmosisref1_SameImage_J0 a p_b).1 (in_osmosisref1_SameImage_J0 a p_b).2 (.br 12 (.en [4] [none] [] []) (.br 19 (.en [4] [none] [] []) (.br 28 (.en [4] [none] [] []) (.br 36 (.en [4] [none] [] []) (.en [2, 3] [none, none] [] []))))) (fin_osmosisref1_SameImage_J0 a p_b r) = (((a.Shard != p_b.Shard) = true → lfe (fin_osmosisref1_SameImage_J0 a p_b) (.inl ()) r) ∧ ((a.Shard != p_b.Shard) = false → (((a.Epoch != p_b.Epoch) = true → lfe (fin_osmosisref1_SameImage_J0 a p_b) (.inl ()) r) ∧ ((a.Epoch != p_b.Epoch) = false → ((((a.Pairs.length : Int) != (p_b.Pairs.length : Int)) = true → lfe (fin_osmosisref1_SameImage_J0 a p_b) (.inl ()) r) ∧ (((a.Pairs.length : Int) != (p_b.Pairs.length : Int)) = false → ((((a.Sess.length : Int) != (p_b.Sess.length : Int)) = true → lfe (fin_osmosisref1_SameImage_J0 a p_b) (.inl ()) r) ∧ (((a.Sess.length : Int) != (p_b.Sess.length : Int)) = false → lfe (fin_osmosisref1_SameImage_J0 a p_b) (.inr ()) r)))))))) := fun C => by kernel_rfl
  refine runS_of (fun _ _ h => by cases h) WJ68_ba_ok (Nat.le_of_ble_eq_true rfl) ((e _).mpr ?_)
  unfold osmosisref1_SameImage_J0 at h
  refine ⟨fun hb => ?_, fun hb => ?_⟩
  · have h := cond_t hb h
    exact lfe_of h
  · have h := cond_f hb h
    refine ⟨fun hb => ?_, fun hb => ?_⟩
    · have h := cond_t hb h
      exact lfe_of h
    · have h := cond_f hb h
      refine ⟨fun hb => ?_, fun hb => ?_⟩
      · have h := cond_t hb h
        exact lfe_of h
      · have h := cond_f hb h
        refine ⟨fun hb => ?_, fun hb => ?_⟩
        · have h := cond_t hb h
          exact lfe_of h
        · have h := cond_f hb h
          exact lfe_of h

def st_osmosisref1_SameImage_L1 (a : api_Image) (p_b : api_Image) (s5 : Int) : List AV × WH := ([(.ptr (some (0, 0))), (.ptr (some (1, 0))), (.int .i64 s5)], [(some (.cells (e_api_Image a) false false)), (some (.cells (e_api_Image p_b) false false))])
def fin_osmosisref1_SameImage_L1 (a : api_Image) (p_b : api_Image) : Unit ⊕ Unit → Ex × Fast × WH := fun
  | .inl e => (.ret, [(4, (.bool false))], [])
  | .inr e => ((.exit 0), [(2, (.ptr (some (0, 0)))), (3, (.ptr (some (1, 0))))], [(some (.cells (e_api_Image a) false false)), (some (.cells (e_api_Image p_b) false false))])
abbrev rx_osmosisref1_SameImage_L1 (a : api_Image) (p_b : api_Image) := roundX [2, 3, 5] (st_osmosisref1_SameImage_L1 a p_b) (fin_osmosisref1_SameImage_L1 a p_b)
def osmosisref1_SameImage_L1_s (a : api_Image) (p_b : api_Image) (s5 : Int) : Option ((Int) ⊕ (Unit ⊕ Unit)) :=
  cond (decide (s5 < (a.Pairs.length : Int))) ((getI a.Pairs s5).bind fun (x6 : api_Pair) => (getI p_b.Pairs s5).bind fun (x7 : api_Pair) => cond (!(x6.Key == x7.Key && (x6.Value == x7.Value && true))) (some (.inr (.inl ()))) (some (.inl (IntKind.i64.wrap (s5 + 1))))) (some (.inr (.inr ())))
def osmosisref1_SameImage_L1 (a : api_Image) (p_b : api_Image) (s5 : Int) : Option (Unit ⊕ Unit) := loopX (osmosisref1_SameImage_L1_s a p_b) KK s5
theorem b_osmosisref1_SameImage_L1 (d : Nat) {a : api_Image} {p_b : api_Image} {s5 : Int} {r : (Int) ⊕ (Unit ⊕ Unit)} (h : osmosisref1_SameImage_L1_s a p_b s5 = some r) : RunX (bexec (wcalls atab (d + 0)) KK 73 WB68_0) 0 (inL [2, 3, 5] (st_osmosisref1_SameImage_L1 a p_b s5)) (rx_osmosisref1_SameImage_L1 a p_b r) := by
  obtain ⟨x6, hx6⟩ := wx (getI a.Pairs s5)
  obtain ⟨x7, hx7⟩ := wx (getI p_b.Pairs s5)
  have e : ∀ C : ACalls, wCode C (fun _ => none) KK 73 0 WB68_0 (inL [2, 3, 5] (st_osmosisref1_SameImage_L1 a p_b s5)).1 (inL [2, 3, 5] (st_osmosisref1_SameImage_L1 a p_b s5)).2 (.br 41 (.v 47 (.elem ((e_api_Pair x6) ++ F_api_Pair (a.Pairs.drop (s5.toNat + 1)))) (.v 52 (.elem ((e_api_Pair x7) ++ F_api_Pair (p_b.Pairs.drop (s5.toNat + 1)))) (.br 54 (.en [4] [none] [] []) (.en [2, 3, 5] [none, none, none] [] [])))) (.en [2, 3] [none, none] [] [])) (rx_osmosisref1_SameImage_L1 a p_b r) = (((decide (s5 < (a.Pairs.length : Int))) = true → (wP (.idxSlice 2 (.c (l_api_Pair a.Pairs)) (.c (.int .i64 s5))) = some (.elem ((e_api_Pair x6) ++ F_api_Pair (a.Pairs.drop (s5.toNat + 1)))) ∧ (wP (.idxSlice 2 (.c (l_api_Pair p_b.Pairs)) (.c (.int .i64 s5))) = some (.elem ((e_api_Pair x7) ++ F_api_Pair (p_b.Pairs.drop (s5.toNat + 1)))) ∧ (((!(x6.Key == x7.Key && (x6.Value == x7.Value && true))) = true → lfe (rx_osmosisref1_SameImage_L1 a p_b) (.inr (.inl ())) r) ∧ ((!(x6.Key == x7.Key && (x6.Value == x7.Value && true))) = false → lfe (rx_osmosisref1_SameImage_L1 a p_b) (.inl (IntKind.i64.wrap (s5 + 1))) r))))) ∧ ((decide (s5 < (a.Pairs.length : Int))) = false → lfe (rx_osmosisref1_SameImage_L1 a p_b) (.inr (.inr ())) r)) := fun C => by kernel_rfl
  refine runS_of (fun _ _ h => by cases h) WB68_0_ok (Nat.le_of_ble_eq_true rfl) ((e _).mpr ?_)
  unfold osmosisref1_SameImage_L1_s at h
  refine ⟨fun hb => ?_, fun hb => ?_⟩
  · have h := cond_t hb h
    obtain ⟨q6, h⟩ := bget hx6 h
    refine ⟨wP_idx R_api_Pair q6, ?_⟩
    obtain ⟨q7, h⟩ := bget hx7 h
    refine ⟨wP_idx R_api_Pair q7, ?_⟩
    refine ⟨fun hb => ?_, fun hb => ?_⟩
    · have h := cond_t hb h
      exact lfe_of h
    · have h := cond_f hb h
      exact lfe_of h
  · have h := cond_f hb h
    exact lfe_of h
theorem s_osmosisref1_SameImage_L1 (d : Nat) {a : api_Image} {p_b : api_Image} {s5 : Int} {r : Unit ⊕ Unit} (h : osmosisref1_SameImage_L1 a p_b s5 = some r) : RunX (bloop (bexec (wcalls atab (d + 0)) KK 73 WB68_0) [2, 3, 5] KK) 0 (inL [2, 3, 5] (st_osmosisref1_SameImage_L1 a p_b s5)) (fin_osmosisref1_SameImage_L1 a p_b r) :=
  loop_of (st := st_osmosisref1_SameImage_L1 a p_b) (fin := fin_osmosisref1_SameImage_L1 a p_b) (step := osmosisref1_SameImage_L1_s a p_b) (fun e => by rcases e with e | e <;> (intro h; cases h)) (fun s x h => b_osmosisref1_SameImage_L1 d h) KK s5 r h

def st_osmosisref1_SameImage_L2 (a : api_Image) (p_b : api_Image) (s12 : Int) : List AV × WH := ([(.ptr (some (0, 0))), (.ptr (some (1, 0))), (.int .i64 s12)], [(some (.cells (e_api_Image a) false false)), (some (.cells (e_api_Image p_b) false false))])
def fin_osmosisref1_SameImage_L2 (a : api_Image) (p_b : api_Image) : Unit ⊕ Unit → Ex × Fast × WH := fun
  | .inl e => (.ret, [(4, (.bool false))], [])
  | .inr e => ((.exit 2), [], [])
abbrev rx_osmosisref1_SameImage_L2 (a : api_Image) (p_b : api_Image) := roundX [2, 3, 6] (st_osmosisref1_SameImage_L2 a p_b) (fin_osmosisref1_SameImage_L2 a p_b)
def osmosisref1_SameImage_L2_s (a : api_Image) (p_b : api_Image) (s12 : Int) : Option ((Int) ⊕ (Unit ⊕ Unit)) :=
  cond (decide (s12 < (a.Sess.length : Int))) ((getI a.Sess s12).bind fun (x13 : api_Sess) => (getI p_b.Sess s12).bind fun (x14 : api_Sess) => cond (!(x13.Client == x14.Client && (x13.Seq == x14.Seq && (x13.Answer.Why == x14.Answer.Why && (x13.Answer.Value == x14.Answer.Value && true))))) (some (.inr (.inl ()))) (some (.inl (IntKind.i64.wrap (s12 + 1))))) (some (.inr (.inr ())))
def osmosisref1_SameImage_L2 (a : api_Image) (p_b : api_Image) (s12 : Int) : Option (Unit ⊕ Unit) := loopX (osmosisref1_SameImage_L2_s a p_b) KK s12
theorem b_osmosisref1_SameImage_L2 (d : Nat) {a : api_Image} {p_b : api_Image} {s12 : Int} {r : (Int) ⊕ (Unit ⊕ Unit)} (h : osmosisref1_SameImage_L2_s a p_b s12 = some r) : RunX (bexec (wcalls atab (d + 0)) KK 73 WB68_1) 0 (inL [2, 3, 6] (st_osmosisref1_SameImage_L2 a p_b s12)) (rx_osmosisref1_SameImage_L2 a p_b r) := by
  obtain ⟨x13, hx13⟩ := wx (getI a.Sess s12)
  obtain ⟨x14, hx14⟩ := wx (getI p_b.Sess s12)
  have e : ∀ C : ACalls, wCode C (fun _ => none) KK 73 0 WB68_1 (inL [2, 3, 6] (st_osmosisref1_SameImage_L2 a p_b s12)).1 (inL [2, 3, 6] (st_osmosisref1_SameImage_L2 a p_b s12)).2 (.br 59 (.v 65 (.elem ((e_api_Sess x13) ++ F_api_Sess (a.Sess.drop (s12.toNat + 1)))) (.v 70 (.elem ((e_api_Sess x14) ++ F_api_Sess (p_b.Sess.drop (s12.toNat + 1)))) (.br 72 (.en [4] [none] [] []) (.en [2, 3, 6] [none, none, none] [] [])))) (.en [] [] [] [])) (rx_osmosisref1_SameImage_L2 a p_b r) = (((decide (s12 < (a.Sess.length : Int))) = true → (wP (.idxSlice 4 (.c (l_api_Sess a.Sess)) (.c (.int .i64 s12))) = some (.elem ((e_api_Sess x13) ++ F_api_Sess (a.Sess.drop (s12.toNat + 1)))) ∧ (wP (.idxSlice 4 (.c (l_api_Sess p_b.Sess)) (.c (.int .i64 s12))) = some (.elem ((e_api_Sess x14) ++ F_api_Sess (p_b.Sess.drop (s12.toNat + 1)))) ∧ (((!(x13.Client == x14.Client && (x13.Seq == x14.Seq && (x13.Answer.Why == x14.Answer.Why && (x13.Answer.Value == x14.Answer.Value && true))))) = true → lfe (rx_osmosisref1_SameImage_L2 a p_b) (.inr (.inl ())) r) ∧ ((!(x13.Client == x14.Client && (x13.Seq == x14.Seq && (x13.Answer.Why == x14.Answer.Why && (x13.Answer.Value == x14.Answer.Value && true))))) = false → lfe (rx_osmosisref1_SameImage_L2 a p_b) (.inl (IntKind.i64.wrap (s12 + 1))) r))))) ∧ ((decide (s12 < (a.Sess.length : Int))) = false → lfe (rx_osmosisref1_SameImage_L2 a p_b) (.inr (.inr ())) r)) := fun C => by kernel_rfl
  refine runS_of (fun _ _ h => by cases h) WB68_1_ok (Nat.le_of_ble_eq_true rfl) ((e _).mpr ?_)
  unfold osmosisref1_SameImage_L2_s at h
  refine ⟨fun hb => ?_, fun hb => ?_⟩
  · have h := cond_t hb h
    obtain ⟨q13, h⟩ := bget hx13 h
    refine ⟨wP_idx R_api_Sess q13, ?_⟩
    obtain ⟨q14, h⟩ := bget hx14 h
    refine ⟨wP_idx R_api_Sess q14, ?_⟩
    refine ⟨fun hb => ?_, fun hb => ?_⟩
    · have h := cond_t hb h
      exact lfe_of h
    · have h := cond_f hb h
      exact lfe_of h
  · have h := cond_f hb h
    exact lfe_of h
theorem s_osmosisref1_SameImage_L2 (d : Nat) {a : api_Image} {p_b : api_Image} {s12 : Int} {r : Unit ⊕ Unit} (h : osmosisref1_SameImage_L2 a p_b s12 = some r) : RunX (bloop (bexec (wcalls atab (d + 0)) KK 73 WB68_1) [2, 3, 6] KK) 0 (inL [2, 3, 6] (st_osmosisref1_SameImage_L2 a p_b s12)) (fin_osmosisref1_SameImage_L2 a p_b r) :=
  loop_of (st := st_osmosisref1_SameImage_L2 a p_b) (fin := fin_osmosisref1_SameImage_L2 a p_b) (step := osmosisref1_SameImage_L2_s a p_b) (fun e => by rcases e with e | e <;> (intro h; cases h)) (fun s x h => b_osmosisref1_SameImage_L2 d h) KK s12 r h

def osmosisref1_SameImage (a : api_Image) (p_b : api_Image) : Option (Bool) :=
  (osmosisref1_SameImage_J0 a p_b).bind fun (x1 : Unit ⊕ Unit) => cond (isL x1) (some false) ((osmosisref1_SameImage_L1 a p_b 0).bind fun (x8 : Unit ⊕ Unit) => cond (isL x8) (some false) ((osmosisref1_SameImage_L2 a p_b 0).bind fun (x15 : Unit ⊕ Unit) => cond (isL x15) (some false) (some true)))
def out_osmosisref1_SameImage (a : api_Image) (p_b : api_Image) (r : Bool) : AV × WH := ((.bool r), [])

theorem s_osmosisref1_SameImage (d : Nat) {a : api_Image} {p_b : api_Image} {r : Bool} (h : osmosisref1_SameImage a p_b = some r) : Spec (wcalls atab (d + 1)) 68 [(.agg (e_api_Image a)), (.agg (e_api_Image p_b))] [] (out_osmosisref1_SameImage a p_b r).1 (out_osmosisref1_SameImage a p_b r).2 := by
  obtain ⟨x1, hx1⟩ := wx (osmosisref1_SameImage_J0 a p_b)
  obtain ⟨x8, hx8⟩ := wx (osmosisref1_SameImage_L1 a p_b 0)
  obtain ⟨x15, hx15⟩ := wx (osmosisref1_SameImage_L2 a p_b 0)
  have e : ∀ C : ACalls, wBody C (fun _ => none) KK WF68 [(.agg (e_api_Image a)), (.agg (e_api_Image p_b))] [] (.sk (.ite (isL x1) (.jn [2, 3] [none, none] [] [] .ret [(4, (.bool false))] [] (.fin (some false) [] none)) (.jn [2, 3] [none, none] [] [] .normal [(2, (.ptr (some (0, 0)))), (3, (.ptr (some (1, 0))))] [(some (.cells (e_api_Image a) false false)), (some (.cells (e_api_Image p_b) false false))] (.ite (isL x8) (.lp [none, none, none] [] [] .ret [(4, (.bool false))] [] (.fin (some false) [] none)) (.lp [none, none, none] [] [] (.exit 0) [(2, (.ptr (some (0, 0)))), (3, (.ptr (some (1, 0))))] [(some (.cells (e_api_Image a) false false)), (some (.cells (e_api_Image p_b) false false))] (.ite (isL x15) (.lp [none, none, none] [] [] .ret [(4, (.bool false))] [] (.fin (some false) [] none)) (.lp [none, none, none] [] [] (.exit 2) [] [] (.fin (some false) [] none)))))))) (out_osmosisref1_SameImage a p_b r).1 (out_osmosisref1_SameImage a p_b r).2 = (2 = 2 ∧ 2 ≤ 73 ∧ (((isL x1) = true → (RunS (bexec C KK 73 WJ68_ba) 0 [(2, (.ptr (some (0, 0)))), (3, (.ptr (some (1, 0))))] [(some (.cells (e_api_Image a) false false)), (some (.cells (e_api_Image p_b) false false))] .ret [(4, (.bool false))] [] ∧ lff (out_osmosisref1_SameImage a p_b) false r)) ∧ ((isL x1) = false → (RunS (bexec C KK 73 WJ68_ba) 0 [(2, (.ptr (some (0, 0)))), (3, (.ptr (some (1, 0))))] [(some (.cells (e_api_Image a) false false)), (some (.cells (e_api_Image p_b) false false))] .normal [(2, (.ptr (some (0, 0)))), (3, (.ptr (some (1, 0))))] [(some (.cells (e_api_Image a) false false)), (some (.cells (e_api_Image p_b) false false))] ∧ (((isL x8) = true → (RunS (bloop (bexec C KK 73 WB68_0) [2, 3, 5] KK) 0 [(2, (.ptr (some (0, 0)))), (3, (.ptr (some (1, 0)))), (5, (.int .i64 0))] [(some (.cells (e_api_Image a) false false)), (some (.cells (e_api_Image p_b) false false))] .ret [(4, (.bool false))] [] ∧ lff (out_osmosisref1_SameImage a p_b) false r)) ∧ ((isL x8) = false → (RunS (bloop (bexec C KK 73 WB68_0) [2, 3, 5] KK) 0 [(2, (.ptr (some (0, 0)))), (3, (.ptr (some (1, 0)))), (5, (.int .i64 0))] [(some (.cells (e_api_Image a) false false)), (some (.cells (e_api_Image p_b) false false))] (.exit 0) [(2, (.ptr (some (0, 0)))), (3, (.ptr (some (1, 0))))] [(some (.cells (e_api_Image a) false false)), (some (.cells (e_api_Image p_b) false false))] ∧ (((isL x15) = true → (RunS (bloop (bexec C KK 73 WB68_1) [2, 3, 6] KK) 0 [(2, (.ptr (some (0, 0)))), (3, (.ptr (some (1, 0)))), (6, (.int .i64 0))] [(some (.cells (e_api_Image a) false false)), (some (.cells (e_api_Image p_b) false false))] .ret [(4, (.bool false))] [] ∧ lff (out_osmosisref1_SameImage a p_b) false r)) ∧ ((isL x15) = false → (RunS (bloop (bexec C KK 73 WB68_1) [2, 3, 6] KK) 0 [(2, (.ptr (some (0, 0)))), (3, (.ptr (some (1, 0)))), (6, (.int .i64 0))] [(some (.cells (e_api_Image a) false false)), (some (.cells (e_api_Image p_b) false false))] (.exit 2) [] [] ∧ lff (out_osmosisref1_SameImage a p_b) true r)))))))))) := fun C => by kernel_rfl
  refine spec_of (fun _ _ h => by cases h) rfl atab_68 WF68_ok ((e _).mpr ⟨rfl, by decide, ?_⟩)
  unfold osmosisref1_SameImage at h
  obtain ⟨q1, h⟩ := bget hx1 h
  refine ⟨fun hb2 => ?_, fun hb2 => ?_⟩
  · have h := cond_t hb2 h
    refine ⟨by have h := s_osmosisref1_SameImage_J0 (d + 0) q1; rw [isL_t hb2] at h; exact h, ?_⟩
    exact lff_of h
  · have h := cond_f hb2 h
    refine ⟨by have h := s_osmosisref1_SameImage_J0 (d + 0) q1; rw [isL_f hb2] at h; exact h, ?_⟩
    obtain ⟨q8, h⟩ := bget hx8 h
    refine ⟨fun hb9 => ?_, fun hb9 => ?_⟩
    · have h := cond_t hb9 h
      refine ⟨by have h := s_osmosisref1_SameImage_L1 (d + 0) q8; rw [isL_t hb9] at h; exact h, ?_⟩
      exact lff_of h
    · have h := cond_f hb9 h
      refine ⟨by have h := s_osmosisref1_SameImage_L1 (d + 0) q8; rw [isL_f hb9] at h; exact h, ?_⟩
      obtain ⟨q15, h⟩ := bget hx15 h
      refine ⟨fun hb16 => ?_, fun hb16 => ?_⟩
      · have h := cond_t hb16 h
        refine ⟨by have h := s_osmosisref1_SameImage_L2 (d + 0) q15; rw [isL_t hb16] at h; exact h, ?_⟩
        exact lff_of h
      · have h := cond_f hb16 h
        refine ⟨by have h := s_osmosisref1_SameImage_L2 (d + 0) q15; rw [isL_f hb16] at h; exact h, ?_⟩
        exact lff_of h

end Go.Proofs.Ytachollgbplikaa
