/- Notes in any order: plain. -/
import Derived.Test.YteibgagdnidojaaQSess4
set_option linter.all false
set_option linter.unusedSimpArgs false
namespace Go.Proofs.Yteibgagdnidojaa

theorem note_comm (T : List Sx) (x y : Sx) (h : x.c = y.c → x.q = y.q → x = y) : noteT (noteT T x) y = noteT (noteT T y) x := by
  by_cases hx : 0 ≤ x.c ∧ x.c < 4 ∧ 1 ≤ x.q
  · by_cases hy : 0 ≤ y.c ∧ y.c < 4 ∧ 1 ≤ y.q
    · by_cases hc : x.c = y.c
      · cases ht : T[y.c.toNat]? with
        | none =>
          have e1 : mayN T x = false := by simp [mayN, hc, ht]
          have e2 : mayN T y = false := by simp [mayN, ht]
          simp [noteT, e1, e2]
        | some t =>
          have hlt : y.c.toNat < T.length := by
            rcases Nat.lt_or_ge y.c.toNat T.length with c | c
            · exact c
            · rw [List.getElem?_eq_none c] at ht; cases ht
          have mx : ∀ (S : List Sx) (s z : Sx), S[y.c.toNat]? = some s → z.c = y.c → 1 ≤ z.q → mayN S z = decide (s.q < z.q) := by
            intro S s z hs hz hq
            have : 0 ≤ y.c ∧ y.c < 4 ∧ 1 ≤ z.q := ⟨hy.1, hy.2.1, hq⟩
            simp only [mayN, hz, hs, decide_eq_true this, Bool.true_and]
          have sx : ∀ s : Sx, (T.set y.c.toNat s)[y.c.toNat]? = some s := fun s => by simp [hlt]
          by_cases h1 : t.q < x.q
          · by_cases h2 : t.q < y.q
            · simp only [noteT, hc, mx T t x ht hc hx.2.2, mx T t y ht rfl hy.2.2, decide_eq_true h1, decide_eq_true h2, if_true, mx _ x y (sx x) rfl hy.2.2, mx _ y x (sx y) hc hx.2.2]
              by_cases h3 : x.q < y.q
              · have h4 : ¬ y.q < x.q := by omega
                simp [h3, h4]
              · by_cases h4 : y.q < x.q
                · simp [h3, h4]
                · rw [h hc (by omega)]
            · have h4 : y.q < x.q := by omega
              have h3 : ¬ x.q < y.q := by omega
              simp [noteT, hc, mx T t x ht hc hx.2.2, mx T t y ht rfl hy.2.2, h1, h2, mx _ x y (sx x) rfl hy.2.2, h3]
          · by_cases h2 : t.q < y.q
            · have h4 : ¬ y.q < x.q := by omega
              simp [noteT, hc, mx T t x ht hc hx.2.2, mx T t y ht rfl hy.2.2, h1, h2, mx _ y x (sx y) hc hx.2.2, h4]
            · simp [noteT, hc, mx T t x ht hc hx.2.2, mx T t y ht rfl hy.2.2, h1, h2]
      · have hn : x.c.toNat ≠ y.c.toNat := by omega
        have e1 : ∀ s, mayN (T.set x.c.toNat s) y = mayN T y := fun s => by simp only [mayN, List.getElem?_set_ne hn]
        have e2 : ∀ s, mayN (T.set y.c.toNat s) x = mayN T x := fun s => by simp only [mayN, List.getElem?_set_ne (Ne.symm hn)]
        by_cases hx' : mayN T x = true
        · by_cases hy' : mayN T y = true
          · simp only [noteT, hx', hy', if_true, e1, e2]
            exact List.set_comm _ _ hn
          · simp [noteT, hx', hy', e1]
        · by_cases hy' : mayN T y = true
          · simp [noteT, hx', hy', e2]
          · simp [noteT, hx', hy']
    · have e : ∀ S, mayN S y = false := fun S => by simp only [mayN, decide_eq_false hy, Bool.false_and]
      simp [noteT, e]
  · have e : ∀ S, mayN S x = false := fun S => by simp only [mayN, decide_eq_false hx, Bool.false_and]
    simp [noteT, e]

theorem ofT_perm {l l' : List Sx} (p : l.Perm l') (h : ∀ x ∈ l, ∀ y ∈ l, x.c = y.c → x.q = y.q → x = y) : ofT l = ofT l' :=
  p.foldl_eq' (fun x hx y hy z => note_comm z x y (h x hx y hy)) zeroS

/-- A table as it may be: none, or a client's own. -/
def TOk (T : List Sx) : Prop := T.length = 4 ∧ ∀ (i : Nat) (t : Sx), T[i]? = some t → t = ⟨0, 0, 0, []⟩ ∨ (t.c = (i : Int) ∧ 1 ≤ t.q)

theorem tok_note {T : List Sx} (h : TOk T) (x : Sx) : TOk (noteT T x) := by
  refine ⟨by rw [noteT_len]; exact h.1, fun i t ht => ?_⟩
  unfold noteT at ht
  split at ht
  · rename_i hm
    rw [List.getElem?_set] at ht
    split at ht
    · split at ht
      · cases ht
        right
        simp only [mayN, Bool.and_eq_true, decide_eq_true_eq] at hm
        omega
      · cases ht
    · exact h.2 i t ht
  · exact h.2 i t ht

theorem tok_zero : TOk zeroS := by
  refine ⟨rfl, fun i t ht => ?_⟩
  match i, ht with
  | 0, ht | 1, ht | 2, ht | 3, ht => simp [zeroS] at ht; left; exact ht.symm
  | i + 4, ht => simp [zeroS] at ht

theorem tok_of (l : List Sx) : TOk (ofT l) := by
  have : ∀ (l T : List Sx), TOk T → TOk (l.foldl noteT T) := by
    intro l
    induction l with
    | nil => intro T h; exact h
    | cons x l ih => intro T h; exact ih _ (tok_note h x)
  exact this l _ tok_zero

theorem ofT_all {T : List Sx} (h : TOk T) : ofT (allT T) = T := by
  obtain ⟨hl, h⟩ := h
  match T, hl with
  | [a, b, c, d], _ =>
    have h0 := h 0 a rfl
    have h1 := h 1 b rfl
    have h2 := h 2 c rfl
    have h3 := h 3 d rfl
    obtain ⟨ac, aq, aw, av⟩ := a
    obtain ⟨bc, bq, bw, bv⟩ := b
    obtain ⟨cc, cq, cw, cv⟩ := c
    obtain ⟨dc, dq, dw, dv⟩ := d
    simp only [Sx.mk.injEq] at h0 h1 h2 h3
    rcases h0 with ⟨rfl, rfl, rfl, rfl⟩ | ⟨rfl, h0⟩ <;> rcases h1 with ⟨rfl, rfl, rfl, rfl⟩ | ⟨rfl, h1⟩ <;> rcases h2 with ⟨rfl, rfl, rfl, rfl⟩ | ⟨rfl, h2⟩ <;> rcases h3 with ⟨rfl, rfl, rfl, rfl⟩ | ⟨rfl, h3⟩ <;>
      (try have g0 : 0 < aq := by omega) <;> (try have g1 : 0 < bq := by omega) <;> (try have g2 : 0 < cq := by omega) <;> (try have g3 : 0 < dq := by omega) <;>
      simp [allT, ofT, noteT, mayN, zeroS, *]

end Go.Proofs.Yteibgagdnidojaa
