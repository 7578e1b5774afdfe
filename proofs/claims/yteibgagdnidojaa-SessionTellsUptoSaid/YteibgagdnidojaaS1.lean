/- Plain laws of functions: sessions. -/
import Derived.Test.YteibgagdnidojaaC3
import Derived.Test.YteibgagdnidojaaY4
set_option linter.all false
set_option linter.unusedSimpArgs false
namespace Go.Proofs.Yteibgagdnidojaa

theorem value_some (n : Int) : ∃ v, osmosishand_Value n = some v := by
  obtain ⟨k, hk, h⟩ := pick_nat n 6 (by omega) (by omega)
  unfold osmosishand_Value
  rw [show (6 : Int) = ((6 : Nat) : Int) from rfl, hk, Option.bind_some, getI_at (by simpa using h), Option.bind_some]
  exact ⟨_, rfl⟩
theorem pick_any (n : Int) (m : Nat) (h : 0 < m) (h2 : m < 1000000000000) : ∃ k, osmosishand_Pick n (m : Int) = some k := by
  obtain ⟨k, hk, _⟩ := pick_nat n m h h2
  exact ⟨_, hk⟩
theorem num_some (n : Int) : ∃ v, osmosishand_Num n = some v := by
  obtain ⟨a, ha⟩ := pick_any n 7 (by omega) (by omega)
  obtain ⟨b, hb⟩ := pick_any (IntKind.i64.wrap (Int.tdiv n 7)) 40 (by omega) (by omega)
  obtain ⟨c, hc, hc2⟩ := pick_nat (IntKind.i64.wrap (Int.tdiv n 7)) 63 (by omega) (by omega)
  obtain ⟨d, hd⟩ := pick_any (IntKind.i64.wrap (Int.tdiv n 441)) 3 (by omega) (by omega)
  obtain ⟨e, he⟩ := pick_any (IntKind.i64.wrap (Int.tdiv n 7)) 3 (by omega) (by omega)
  obtain ⟨f, hf⟩ := pick_any (IntKind.i64.wrap (Int.tdiv n 7)) 1000 (by omega) (by omega)
  have hs : shlI .i64 1 (IntKind.u64.wrap (c : Int)) = some (IntKind.i64.wrap (1 * 2 ^ (min (IntKind.u64.wrap (c : Int)).toNat IntKind.i64.bits))) := by
    unfold shlI
    rw [if_neg (by have := wrapU_range (c : Int); omega)]
  have hj : ∃ b, osmosishand_Num_J0 a n = some b := by
    unfold osmosishand_Num_J0
    cases (a == 0) <;> cases (a == 1) <;> exact ⟨_, rfl⟩
  obtain ⟨j, hj⟩ := hj
  unfold osmosishand_Num
  rw [show (7 : Int) = ((7 : Nat) : Int) from rfl, ha, Option.bind_some, hj, Option.bind_some]
  cases j
  · rw [cond_false]
    cases (a == 3)
    · rw [cond_false]
      cases (a == 4)
      · rw [cond_false]
        cases (a == 5)
        · exact ⟨_, rfl⟩
        · rw [cond_true, show (1000 : Int) = ((1000 : Nat) : Int) from rfl, show ((7 : Nat) : Int) = 7 from rfl, hf]
          exact ⟨_, rfl⟩
      · rw [cond_true, show (3 : Int) = ((3 : Nat) : Int) from rfl, show ((7 : Nat) : Int) = 7 from rfl, he]
        exact ⟨_, rfl⟩
    · rw [cond_true, show (63 : Int) = ((63 : Nat) : Int) from rfl, show ((7 : Nat) : Int) = 7 from rfl, hc, Option.bind_some, hs, Option.bind_some, show (3 : Int) = ((3 : Nat) : Int) from rfl, hd]
      exact ⟨_, rfl⟩
  · rw [cond_true, show (40 : Int) = ((40 : Nat) : Int) from rfl, show ((7 : Nat) : Int) = 7 from rfl, hb]
    exact ⟨_, rfl⟩
theorem sess_some (x : osmosislaw7_Raw) : ∃ y, osmosislaw7_sess x = some y := by
  obtain ⟨a, ha⟩ := pick_any x.Client 7 (by omega) (by omega)
  obtain ⟨b, hb⟩ := pick_any x.Seq 12 (by omega) (by omega)
  obtain ⟨c, hc⟩ := pick_any x.Why 7 (by omega) (by omega)
  obtain ⟨d, hd⟩ := value_some x.Value
  obtain ⟨e, he⟩ := pick_any x.Seq 13 (by omega) (by omega)
  obtain ⟨f, hf⟩ := num_some (IntKind.i64.wrap (Int.tdiv x.Seq 13))
  have k7 : ((7 : Nat) : Int) = 7 := rfl
  have k12 : ((12 : Nat) : Int) = 12 := rfl
  have k13 : ((13 : Nat) : Int) = 13 := rfl
  rw [k7] at ha hc; rw [k12] at hb; rw [k13] at he
  unfold osmosislaw7_sess
  rw [ha, Option.bind_some, hb, Option.bind_some, hc, Option.bind_some, hd, Option.bind_some, he, Option.bind_some]
  cases (e == 12)
  · exact ⟨_, rfl⟩
  · rw [cond_true, hf]; exact ⟨_, rfl⟩

/-! ### What is noted -/

def gk (k : Int) (x : api_Sess) : Prop := x.Seq = 0 ∨ (0 < x.Seq ∧ x.Client = k)
def GoodS (s : session_Sessions) : Prop := gk 0 s.l.a0 ∧ gk 1 s.l.a1 ∧ gk 2 s.l.a2 ∧ gk 3 s.l.a3
def allOf (s : session_Sessions) : List api_Sess := s.l.toL.filter (fun x => decide (0 < x.Seq))
def noneS : api_Sess := ⟨0, 0, ⟨0, []⟩⟩
def lastOf (c : Int) (L : List api_Sess) : api_Sess × Bool := match L.find? (fun y => y.Client == c) with
  | some y => (y, true)
  | none => (noneS, false)
def nstep (x : api_Sess) (p : Bool × List api_Sess) (y : api_Sess) : Bool × List api_Sess :=
  let q := bif !p.1 && decide (y.Client ≥ x.Client) then (true, p.2 ++ [x]) else p
  bif y.Client != x.Client then (q.1, q.2 ++ [y]) else q
def noteL (x : api_Sess) (L : List api_Sess) : List api_Sess :=
  let p := L.foldl (nstep x) (false, [])
  bif !p.1 then p.2 ++ [x] else p.2
def noteR (x : api_Sess) (L : List api_Sess) : Bool × List api_Sess :=
  if x.Client < 0 ∨ 4 ≤ x.Client ∨ x.Seq < 1 ∨ x.Seq ≤ (lastOf x.Client L).1.Seq then (false, L) else (true, noteL x L)

theorem same_self (a : List api_Sess) (h : a.length < 1000000) : osmosislaw7_same a a = some true := by
  unfold osmosislaw7_same
  rw [bne_f rfl, cond_false]
  have key : osmosislaw7_same_L0 a a 0 = some (.inr ()) := by
    refine loop_run (fun i => (i : Int)) a.length _ (fun i hi => ?_) ?_ (by omega)
    · unfold osmosislaw7_same_L0_s
      rw [dec_t (by omega), cond_true, getI_at hi, Option.bind_some, Option.bind_some]
      simp only [beq_self_eq_true, Bool.and_true, Bool.not_true]
      rw [cond_false]
      rw [wrap_id (by omega) (by omega), succ_cast]
    · unfold osmosislaw7_same_L0_s
      rw [dec_f (by omega), cond_false]
  rw [key]
  rfl

theorem last_find (c : Int) (L : List api_Sess) (h : L.length < 1000000) : ∀ f : Int → Option (Int ⊕ (api_Sess ⊕ Unit)),
    (∀ s, f s = cond (decide (s < (L.length : Int))) ((getI L s).bind fun (x4 : api_Sess) => cond (x4.Client == c) ((getI L s).bind fun (x5 : api_Sess) => some (.inr (.inl x5))) (some (.inl (IntKind.i64.wrap (s + 1))))) (some (.inr (.inr ())))) →
    loopX f KK 0 = some (match L.find? (fun y => y.Client == c) with | some y => .inl y | none => .inr ()) := by
  intro f hf
  have key : ∃ e, loopX f KK ((0 : Nat) : Int) = some e ∧ e = (match L.find? (fun y => y.Client == c) with | some y => .inl y | none => .inr ()) := by
    refine loopX_inv (fun s => L.length - s.toNat) (fun s => ∃ i : Nat, s = (i : Int) ∧ i ≤ L.length ∧ L.find? (fun y => y.Client == c) = (L.drop i).find? (fun y => y.Client == c)) _ ?_ KK _ ⟨0, rfl, by omega, rfl⟩ (by have := KK_big; omega)
    rintro s ⟨i, rfl, h1, h2⟩
    rw [hf]
    by_cases hi : i < L.length
    · rw [dec_t (by omega), cond_true, getI_at hi, Option.bind_some, Option.bind_some]
      rw [List.drop_eq_getElem_cons hi, List.find?_cons] at h2
      cases e : (L[i].Client == c)
      · left
        rw [cond_false, wrap_id (by omega) (by omega), succ_cast]
        rw [e] at h2
        exact ⟨_, rfl, ⟨i + 1, rfl, by omega, h2⟩, by omega⟩
      · right
        rw [e] at h2
        rw [cond_true, h2]
        exact ⟨_, rfl, rfl⟩
    · right
      rw [dec_f (by omega), cond_false, h2, List.drop_of_length_le (by omega)]
      exact ⟨_, rfl, rfl⟩
  obtain ⟨e, e1, rfl⟩ := key
  exact e1

theorem last2_plain (c : Int) (L : List api_Sess) (h : L.length < 1000000) : osmosisref1_Sessions_Last_2 c L = some (lastOf c L) := by
  unfold osmosisref1_Sessions_Last_2 osmosisref1_Sessions_Last_2_L0 lastOf
  rw [last_find c L h (osmosisref1_Sessions_Last_2_L0_s L c) (fun _ => rfl), Option.bind_some]
  cases L.find? (fun y => y.Client == c) <;> rfl
theorem last3_plain (c : Int) (s : osmosisref1_Sessions) (h : s.L.length < 1000000) : osmosisref1_Sessions_Last_3 c s = some (lastOf c s.L) := by
  unfold osmosisref1_Sessions_Last_3 osmosisref1_Sessions_Last_3_L0 lastOf
  rw [last_find c s.L h (osmosisref1_Sessions_Last_3_L0_s s c) (fun _ => rfl), Option.bind_some]
  cases s.L.find? (fun y => y.Client == c) <;> rfl

theorem nfold_len (x : api_Sess) (L : List api_Sess) : ∀ p : Bool × List api_Sess, (L.foldl (nstep x) p).2.length ≤ p.2.length + 2 * L.length := by
  induction L with
  | nil => intro p; simp
  | cons y L ih =>
    intro p
    refine Nat.le_trans (ih _) ?_
    have : (nstep x p y).2.length ≤ p.2.length + 2 := by
      unfold nstep
      cases (!p.1 && decide (y.Client ≥ x.Client)) <;> cases (y.Client != x.Client) <;> simp
    simp only [List.length_cons]
    omega
theorem gd_fits40 {β : Type} {n : Nat} {x : Option β} (h : n < 1000000) : gd (fitsB 40 n) x = x := by
  refine gd_true ?_
  unfold fitsB
  simp
  omega

theorem note2_loop (x : api_Sess) (L : List api_Sess) (h : L.length < 1000) : osmosisref1_Sessions_Note_2_L3 L x (false, 0, []) = some (L.foldl (nstep x) (false, [])) := by
  have e0 : ((false, 0, []) : Bool × Int × List api_Sess) = (((L.take 0).foldl (nstep x) (false, [])).1, ((0 : Nat) : Int), ((L.take 0).foldl (nstep x) (false, [])).2) := by simp
  unfold osmosisref1_Sessions_Note_2_L3
  rw [e0]
  refine loop_run (fun i => (((L.take i).foldl (nstep x) (false, [])).1, (i : Int), ((L.take i).foldl (nstep x) (false, [])).2)) L.length _ (fun i hi => ?_) ?_ (by omega)
  · have h5 : (L.take (i + 1)).foldl (nstep x) (false, []) = nstep x ((L.take i).foldl (nstep x) (false, [])) L[i] := by
      rw [List.take_succ_eq_append_getElem hi, List.foldl_append]
      rfl
    have h6 := nfold_len x (L.take i) (false, [])
    have h7 : (L.take i).length ≤ 1000 := by rw [List.length_take]; omega
    rw [h5]
    generalize (L.take i).foldl (nstep x) (false, []) = p at *
    obtain ⟨b, o⟩ := p
    have h8 : o.length < 10000 := by simp at h6; omega
    have h9 : ∀ (l : List api_Sess), o.length ≤ l.length → l.length ≤ o.length + 2 → l.length < 1000000 := fun l _ _ => by omega
    unfold osmosisref1_Sessions_Note_2_L3_s
    simp only
    rw [dec_t (by omega), cond_true]
    unfold osmosisref1_Sessions_Note_2_J2 osmosisref1_Sessions_Note_2_J1
    simp only
    rw [getI_at hi]
    simp only [Option.bind_some]
    unfold nstep
    simp only
    rw [wrap_id (x := (i : Int) + 1) (by omega) (by omega), succ_cast]
    cases b
    · simp only [Bool.not_false, cond_true, Option.bind_some, Bool.true_and]
      cases (decide (L[i].Client ≥ x.Client)) <;> simp only [cond_true, cond_false, Option.bind_some]
      · cases (L[i].Client != x.Client) <;> simp only [cond_true, cond_false]
        rw [gd_fits40 (by simp; omega)]
      · rw [gd_fits40 (by simp; omega), Option.bind_some]
        cases (L[i].Client != x.Client) <;> simp only [cond_true, cond_false]
        rw [gd_fits40 (by simp; omega)]
    · simp only [Bool.not_true, cond_false, Option.bind_some, Bool.false_and]
      cases (L[i].Client != x.Client) <;> simp only [cond_true, cond_false]
      rw [gd_fits40 (by simp; omega)]
  · unfold osmosisref1_Sessions_Note_2_L3_s
    simp only
    rw [dec_f (by omega), cond_false, List.take_length]

theorem note2_plain (x : api_Sess) (L : List api_Sess) (h : L.length < 1000) : osmosisref1_Sessions_Note_2 x L = some (noteR x L) := by
  unfold osmosisref1_Sessions_Note_2
  rw [last2_plain _ _ (by omega), Option.bind_some]
  unfold noteR osmosisref1_Sessions_Note_2_J0
  by_cases h1 : x.Client < 0
  · rw [dec_t h1, if_pos (.inl h1)]; rfl
  rw [dec_f h1, cond_false]
  by_cases h2 : x.Client ≥ 4
  · rw [dec_t h2, if_pos (.inr (.inl h2))]; rfl
  rw [dec_f h2, cond_false]
  by_cases h3 : x.Seq < 1
  · rw [dec_t h3, if_pos (.inr (.inr (.inl h3)))]; rfl
  rw [dec_f h3, cond_false]
  by_cases h4 : x.Seq ≤ (lastOf x.Client L).1.Seq
  · rw [dec_t h4, if_pos (.inr (.inr (.inr h4)))]; rfl
  rw [dec_f h4, cond_false, if_neg (by omega), Option.bind_some]
  simp only [isL, cond_false]
  rw [note2_loop x L h, Option.bind_some]
  unfold osmosisref1_Sessions_Note_2_J4 noteL
  have h6 := nfold_len x L (false, [])
  simp only
  cases (L.foldl (nstep x) (false, [])).1
  · simp only [Bool.not_false, cond_true]
    rw [gd_fits40 (by simp at h6; simp; omega)]
    rfl
  · rfl
theorem note3_plain (x : api_Sess) (s : osmosisref1_Sessions) (h : s.L.length < 1000) : osmosisref1_Sessions_Note_3 x s = some ((noteR x s.L).1, ⟨(noteR x s.L).2⟩) := by
  have e := note2_plain x s.L h
  have e3 : osmosisref1_Sessions_Note_3 x s = (osmosisref1_Sessions_Note_2 x s.L).bind fun r => some (r.1, ⟨r.2⟩) := by
    unfold osmosisref1_Sessions_Note_3 osmosisref1_Sessions_Note_2
    rw [last3_plain _ _ (by omega), last2_plain _ _ (by omega), Option.bind_some, Option.bind_some]
    have j0 : osmosisref1_Sessions_Note_3_J0 x (lastOf x.Client s.L) s = osmosisref1_Sessions_Note_2_J0 x (lastOf x.Client s.L) s.L := rfl
    have j3 : osmosisref1_Sessions_Note_3_L3 s x (false, 0, []) = osmosisref1_Sessions_Note_2_L3 s.L x (false, 0, []) := rfl
    rw [j0, j3, note2_loop x _ h]
    cases osmosisref1_Sessions_Note_2_J0 x (lastOf x.Client s.L) s.L with
    | none => rfl
    | some r =>
      cases r with
      | inl _ => rfl
      | inr _ =>
        simp only [Option.bind_some, isL, cond_false]
        have j4 : osmosisref1_Sessions_Note_3_J4 (s.L.foldl (nstep x) (false, [])) x s = osmosisref1_Sessions_Note_2_J4 (s.L.foldl (nstep x) (false, [])) x s.L := rfl
        rw [j4]
        cases osmosisref1_Sessions_Note_2_J4 (s.L.foldl (nstep x) (false, [])) x s.L <;> rfl
  rw [e3, e]
  rfl

theorem all_len (s : session_Sessions) : (allOf s).length ≤ 4 := by
  unfold allOf
  exact Nat.le_trans (List.length_filter_le _ _) (by simp [A4.toL])

theorem all_plain (s : session_Sessions) : session_Sessions_All s = some (allOf s) := by
  unfold session_Sessions_All session_Sessions_All_L0
  have key : loopX (session_Sessions_All_L0_s s) KK (0, []) = some (allOf s) := by
    refine loop_run (fun i => ((i : Int), (s.l.toL.take i).filter (fun x => decide (0 < x.Seq)))) 4 _ (fun i hi => ?_) ?_ (by omega)
    · have hl : i < s.l.toL.length := by simpa [A4.toL] using hi
      have h5 : (s.l.toL.take (i + 1)).filter (fun x => decide (0 < x.Seq)) = (s.l.toL.take i).filter (fun x => decide (0 < x.Seq)) ++ [s.l.toL[i]].filter (fun x => decide (0 < x.Seq)) := by
        rw [List.take_succ_eq_append_getElem hl, List.filter_append]
      have h6 : ((s.l.toL.take i).filter (fun x => decide (0 < x.Seq))).length ≤ 4 := Nat.le_trans (List.length_filter_le _ _) (by simp; omega)
      unfold session_Sessions_All_L0_s
      simp only
      rw [dec_t (by omega), cond_true, show [s.l.a0, s.l.a1, s.l.a2, s.l.a3] = s.l.toL from rfl, getI_at hl, Option.bind_some, h5, wrap_id (by omega) (by omega), succ_cast]
      by_cases q : s.l.toL[i].Seq > 0
      · rw [dec_t q, cond_true, gd_fits40 (by rw [List.length_append]; simp only [List.length_singleton]; omega), List.filter_cons_of_pos (by simpa using q)]; rfl
      · rw [dec_f q, cond_false, List.filter_cons_of_neg (by simpa using q)]; simp
    · unfold session_Sessions_All_L0_s
      rfl
  rw [key]
  rfl

/-- The two notes go alike. -/
theorem note_alike (x : api_Sess) (s : session_Sessions) (hs : GoodS s) : ∃ b s', session_Sessions_Note x s = some (b, s') ∧ GoodS s' ∧ noteR x (allOf s) = (b, allOf s') := by
  by_cases h1 : x.Client < 0
  · exact ⟨false, s, by unfold session_Sessions_Note session_Sessions_Note_J0; rw [dec_t h1]; rfl, hs, by unfold noteR; rw [if_pos (.inl h1)]⟩
  by_cases h2 : x.Client ≥ 4
  · exact ⟨false, s, by unfold session_Sessions_Note session_Sessions_Note_J0; rw [dec_f h1, dec_t h2]; rfl, hs, by unfold noteR; rw [if_pos (.inr (.inl h2))]⟩
  by_cases h3 : x.Seq < 1
  · exact ⟨false, s, by unfold session_Sessions_Note session_Sessions_Note_J0; rw [dec_f h1, dec_f h2, dec_t h3]; rfl, hs, by unfold noteR; rw [if_pos (.inr (.inr (.inl h3)))]⟩
  have hx : 0 < x.Seq := by omega
  have step : ∀ a : api_Sess, getI s.l.toL x.Client = some a → (lastOf x.Client (allOf s)).1.Seq = a.Seq → GoodS ⟨s.l.set x.Client x⟩ → noteL x (allOf s) = allOf ⟨s.l.set x.Client x⟩ →
      ∃ b s', session_Sessions_Note x s = some (b, s') ∧ GoodS s' ∧ noteR x (allOf s) = (b, allOf s') := by
    intro a ha hl hg hn
    by_cases h4 : x.Seq ≤ a.Seq
    · exact ⟨false, s, by unfold session_Sessions_Note session_Sessions_Note_J0; rw [dec_f h1, dec_f h2, dec_f h3, ha]; simp only [cond_false, Option.bind_some]; rw [dec_t h4]; rfl, hs, by unfold noteR; rw [if_pos (.inr (.inr (.inr (by rw [hl]; exact h4))))]⟩
    · refine ⟨true, ⟨s.l.set x.Client x⟩, ?_, hg, ?_⟩
      · unfold session_Sessions_Note session_Sessions_Note_J0
        rw [dec_f h1, dec_f h2, dec_f h3, ha]
        simp only [cond_false, Option.bind_some]
        rw [dec_f h4]
        rfl
      · unfold noteR
        rw [if_neg (by rw [hl]; omega), hn]
  obtain ⟨⟨a0, a1, a2, a3⟩⟩ := s
  obtain ⟨g0, g1, g2, g3⟩ := hs
  simp only at g0 g1 g2 g3
  have hc : x.Client = 0 ∨ x.Client = 1 ∨ x.Client = 2 ∨ x.Client = 3 := by omega
  rcases hc with hc | hc | hc | hc
  · refine step a0 (by rw [hc]; rfl) ?_ ?_ ?_
    · rcases g0 with k0 | ⟨k0, q0⟩ <;> rcases g1 with k1 | ⟨k1, q1⟩ <;> rcases g2 with k2 | ⟨k2, q2⟩ <;> rcases g3 with k3 | ⟨k3, q3⟩ <;> simp [lastOf, allOf, A4.toL, noneS, *]
    · rw [hc]; exact ⟨.inr ⟨hx, hc⟩, g1, g2, g3⟩
    · rcases g0 with k0 | ⟨k0, q0⟩ <;> rcases g1 with k1 | ⟨k1, q1⟩ <;> rcases g2 with k2 | ⟨k2, q2⟩ <;> rcases g3 with k3 | ⟨k3, q3⟩ <;> simp [noteL, nstep, allOf, A4.toL, A4.set, *]
  · refine step a1 (by rw [hc]; rfl) ?_ ?_ ?_
    · rcases g0 with k0 | ⟨k0, q0⟩ <;> rcases g1 with k1 | ⟨k1, q1⟩ <;> rcases g2 with k2 | ⟨k2, q2⟩ <;> rcases g3 with k3 | ⟨k3, q3⟩ <;> simp [lastOf, allOf, A4.toL, noneS, *]
    · rw [hc]; exact ⟨g0, .inr ⟨hx, hc⟩, g2, g3⟩
    · rcases g0 with k0 | ⟨k0, q0⟩ <;> rcases g1 with k1 | ⟨k1, q1⟩ <;> rcases g2 with k2 | ⟨k2, q2⟩ <;> rcases g3 with k3 | ⟨k3, q3⟩ <;> simp [noteL, nstep, allOf, A4.toL, A4.set, *]
  · refine step a2 (by rw [hc]; rfl) ?_ ?_ ?_
    · rcases g0 with k0 | ⟨k0, q0⟩ <;> rcases g1 with k1 | ⟨k1, q1⟩ <;> rcases g2 with k2 | ⟨k2, q2⟩ <;> rcases g3 with k3 | ⟨k3, q3⟩ <;> simp [lastOf, allOf, A4.toL, noneS, *]
    · rw [hc]; exact ⟨g0, g1, .inr ⟨hx, hc⟩, g3⟩
    · rcases g0 with k0 | ⟨k0, q0⟩ <;> rcases g1 with k1 | ⟨k1, q1⟩ <;> rcases g2 with k2 | ⟨k2, q2⟩ <;> rcases g3 with k3 | ⟨k3, q3⟩ <;> simp [noteL, nstep, allOf, A4.toL, A4.set, *]
  · refine step a3 (by rw [hc]; rfl) ?_ ?_ ?_
    · rcases g0 with k0 | ⟨k0, q0⟩ <;> rcases g1 with k1 | ⟨k1, q1⟩ <;> rcases g2 with k2 | ⟨k2, q2⟩ <;> rcases g3 with k3 | ⟨k3, q3⟩ <;> simp [lastOf, allOf, A4.toL, noneS, *]
    · rw [hc]; exact ⟨g0, g1, g2, .inr ⟨hx, hc⟩⟩
    · rcases g0 with k0 | ⟨k0, q0⟩ <;> rcases g1 with k1 | ⟨k1, q1⟩ <;> rcases g2 with k2 | ⟨k2, q2⟩ <;> rcases g3 with k3 | ⟨k3, q3⟩ <;> simp [noteL, nstep, allOf, A4.toL, A4.set, *]

theorem last_alike (c : Int) (s : session_Sessions) (hs : GoodS s) : session_Sessions_Last c s = some (lastOf c (allOf s)) := by
  obtain ⟨⟨a0, a1, a2, a3⟩⟩ := s
  obtain ⟨g0, g1, g2, g3⟩ := hs
  simp only at g0 g1 g2 g3
  have hc : c = 0 ∨ c = 1 ∨ c = 2 ∨ c = 3 ∨ (c < 0 ∨ 4 ≤ c) := by omega
  unfold session_Sessions_Last session_Sessions_Last_J0
  have zero : c < 0 ∨ 4 ≤ c → lastOf c (allOf ⟨⟨a0, a1, a2, a3⟩⟩) = (noneS, false) := by
    intro h
    unfold lastOf
    have e : (allOf ⟨⟨a0, a1, a2, a3⟩⟩).find? (fun y => y.Client == c) = none := by
      rw [List.find?_eq_none]
      intro y hy
      unfold allOf at hy
      rw [List.mem_filter] at hy
      obtain ⟨m, p⟩ := hy
      simp [A4.toL] at m p
      rcases m with rfl | rfl | rfl | rfl
      · rcases g0 with k | ⟨_, k⟩ <;> simp <;> omega
      · rcases g1 with k | ⟨_, k⟩ <;> simp <;> omega
      · rcases g2 with k | ⟨_, k⟩ <;> simp <;> omega
      · rcases g3 with k | ⟨_, k⟩ <;> simp <;> omega
    rw [e]
  rcases hc with rfl | rfl | rfl | rfl | hc
  · rcases g0 with k0 | ⟨k0, q0⟩ <;> rcases g1 with k1 | ⟨k1, q1⟩ <;> rcases g2 with k2 | ⟨k2, q2⟩ <;> rcases g3 with k3 | ⟨k3, q3⟩ <;> simp [lastOf, allOf, A4.toL, noneS, getI, isL, *] <;> rw [beq_f (by omega)] <;> rfl
  · rcases g0 with k0 | ⟨k0, q0⟩ <;> rcases g1 with k1 | ⟨k1, q1⟩ <;> rcases g2 with k2 | ⟨k2, q2⟩ <;> rcases g3 with k3 | ⟨k3, q3⟩ <;> simp [lastOf, allOf, A4.toL, noneS, getI, isL, *] <;> rw [beq_f (by omega)] <;> rfl
  · rcases g0 with k0 | ⟨k0, q0⟩ <;> rcases g1 with k1 | ⟨k1, q1⟩ <;> rcases g2 with k2 | ⟨k2, q2⟩ <;> rcases g3 with k3 | ⟨k3, q3⟩ <;> simp [lastOf, allOf, A4.toL, noneS, getI, isL, *] <;> rw [beq_f (by omega)] <;> rfl
  · rcases g0 with k0 | ⟨k0, q0⟩ <;> rcases g1 with k1 | ⟨k1, q1⟩ <;> rcases g2 with k2 | ⟨k2, q2⟩ <;> rcases g3 with k3 | ⟨k3, q3⟩ <;> simp [lastOf, allOf, A4.toL, noneS, getI, isL, *] <;> rw [beq_f (by omega)] <;> rfl
  · rw [zero hc]
    by_cases h : c < 0
    · rw [dec_t h]; rfl
    · rw [dec_f h, dec_t (show c ≥ 4 by omega)]; rfl

def zeroS : session_Sessions := ⟨⟨noneS, noneS, noneS, noneS⟩⟩
def noteS (s : session_Sessions) (x : api_Sess) : session_Sessions := match session_Sessions_Note x s with
  | some r => r.2
  | none => s
theorem noteS_good (x : api_Sess) (s : session_Sessions) (hs : GoodS s) : (∃ b, session_Sessions_Note x s = some (b, noteS s x) ∧ noteR x (allOf s) = (b, allOf (noteS s x))) ∧ GoodS (noteS s x) := by
  obtain ⟨b, s', e1, e2, e3⟩ := note_alike x s hs
  have : noteS s x = s' := by unfold noteS; rw [e1]
  rw [this]
  exact ⟨⟨b, e1, e3⟩, e2⟩
theorem fold_good (l : List api_Sess) : ∀ s, GoodS s → GoodS (l.foldl noteS s) := by
  induction l with
  | nil => exact fun s h => h
  | cons x l ih => exact fun s h => ih _ (noteS_good x s h).2

/-- Both of a list go alike. -/
theorem of_alike (l : List api_Sess) (h : l.length < 1000000000) : ∃ s, session_OfAll l = some s ∧ GoodS s ∧ osmosisref1_SessionsOf l = some ⟨allOf s⟩ := by
  have g0 : GoodS zeroS := ⟨.inl rfl, .inl rfl, .inl rfl, .inl rfl⟩
  refine ⟨l.foldl noteS zeroS, ?_, fold_good l _ g0, ?_⟩
  · unfold session_OfAll
    have key : session_OfAll_L0 l (0, zeroS) = some (l.foldl noteS zeroS) := by
      refine loop_run (fun i => ((i : Int), (l.take i).foldl noteS zeroS)) l.length _ (fun i hi => ?_) ?_ (by omega)
      · obtain ⟨⟨b, e1, _⟩, _⟩ := noteS_good l[i] _ (fold_good (l.take i) _ g0)
        unfold session_OfAll_L0_s
        simp only
        rw [dec_t (by omega), cond_true, getI_at hi, Option.bind_some, e1, Option.bind_some, wrap_id (by omega) (by omega), succ_cast, List.take_succ_eq_append_getElem hi, List.foldl_append]
        rfl
      · unfold session_OfAll_L0_s
        simp only
        rw [dec_f (by omega), cond_false, List.take_length]
    have e : (0, zeroS) = ((0 : Int), (⟨(⟨(⟨0, 0, (⟨0, ([] : List UInt8)⟩ : api_Answer)⟩ : api_Sess), (⟨0, 0, (⟨0, ([] : List UInt8)⟩ : api_Answer)⟩ : api_Sess), (⟨0, 0, (⟨0, ([] : List UInt8)⟩ : api_Answer)⟩ : api_Sess), (⟨0, 0, (⟨0, ([] : List UInt8)⟩ : api_Answer)⟩ : api_Sess)⟩ : A4 api_Sess)⟩ : session_Sessions)) := rfl
    rw [← e, key]
    rfl
  · unfold osmosisref1_SessionsOf
    have key : osmosisref1_SessionsOf_L0 l (0, []) = some (allOf (l.foldl noteS zeroS)) := by
      refine loop_run (fun i => ((i : Int), allOf ((l.take i).foldl noteS zeroS))) l.length _ (fun i hi => ?_) ?_ (by omega)
      · obtain ⟨⟨b, _, e1⟩, _⟩ := noteS_good l[i] _ (fold_good (l.take i) _ g0)
        have hl := all_len ((l.take i).foldl noteS zeroS)
        unfold osmosisref1_SessionsOf_L0_s
        simp only
        rw [dec_t (by omega), cond_true, getI_at hi, Option.bind_some, note2_plain _ _ (by omega), Option.bind_some, e1, wrap_id (by omega) (by omega), succ_cast, List.take_succ_eq_append_getElem hi, List.foldl_append]
        rfl
      · unfold osmosisref1_SessionsOf_L0_s
        simp only
        rw [dec_f (by omega), cond_false, List.take_length]
    rw [key]
    rfl
theorem known7 : osmosislaw7_known = some true := by decide +kernel
end Go.Proofs.Yteibgagdnidojaa
