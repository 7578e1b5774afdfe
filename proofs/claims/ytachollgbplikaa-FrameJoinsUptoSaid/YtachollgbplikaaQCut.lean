/- What is laid is read, cut anywhere: plain. -/
import Derived.Test.YtachollgbplikaaQRead
import Derived.Test.YtachollgbplikaaQEnc
set_option linter.all false
set_option linter.unusedSimpArgs false
namespace Go.Proofs.Ytachollgbplikaa

def recF (z : List UInt8) : List UInt8 := encN z.length ++ sum8 z ++ z
def encF (r : List (List UInt8)) : List UInt8 := r.flatMap recF
theorem recF_len (z : List UInt8) : (recF z).length = (encN z.length).length + 8 + z.length := by simp [recF, sum8_len]; omega

theorem layOf_enc : ∀ (r : List (List UInt8)) (b : List UInt8), layOf b r = b ++ encF r
  | [], b => by simp [layOf, encF]
  | z :: r, b => by
    have := layOf_enc r (layStep b z)
    simp only [layOf, List.foldl_cons] at this ⊢
    rw [this]
    simp [layStep, encF, recF]

theorem enc_le9 (z : List UInt8) (h : z.length ≤ 200) : (encN z.length).length ≤ 9 := encN_len z.length (by
  have : (128 : Nat) ^ 9 = 9223372036854775808 := by decide
  omega)

theorem one_layed (z : List UInt8) (h : z.length ≤ 200) (rest : List UInt8) : oneOf (recF z ++ rest) = some (z, (recF z).length) := by
  have h9 := enc_le9 z h
  have e : recF z ++ rest = encN z.length ++ (sum8 z ++ z ++ rest) := by simp [recF]
  have h8 := sum8_len z
  have e9 : (recF z ++ rest).take 9 = encN z.length ++ (sum8 z ++ z ++ rest).take (9 - (encN z.length).length) := by
    rw [e, List.take_append, List.take_of_length_le h9]
  have ht : takeR ((recF z ++ rest).take 9) = ((z.length : Int), (sum8 z ++ z ++ rest).take (9 - (encN z.length).length), 0) := by
    rw [e9]; exact takeR_enc _ (by omega) _
  have hh : oneHead (recF z ++ rest) = (encN z.length).length + 8 := by
    unfold oneHead
    rw [ht, e9]
    simp only [List.length_append]
    omega
  have hn : oneN (recF z ++ rest) = z.length := by unfold oneN; rw [ht]; simp
  have hrec : oneRec (recF z ++ rest) = z := by
    unfold oneRec
    rw [hh, hn, e, ← List.drop_drop, List.drop_left, List.append_assoc, List.drop_left' h8, List.take_left]
  have hs : ((recF z ++ rest).drop (oneHead (recF z ++ rest) - 8)).take 8 = sum8 z := by
    rw [hh, Nat.add_sub_cancel, e, List.drop_left, List.append_assoc, List.take_left' h8]
  unfold oneOf
  rw [hs, hrec, ht, hn, hh]
  rw [if_pos ⟨rfl, by omega, by rw [List.length_append, recF_len]; omega⟩, if_pos rfl, recF_len]

theorem one_cut (z : List UInt8) (h : z.length ≤ 200) (rest : List UInt8) (j : Nat) (hj : j < (recF z).length) : oneOf ((recF z ++ rest).take j) = none := by
  have h9 := enc_le9 z h
  have e : recF z ++ rest = encN z.length ++ (sum8 z ++ z ++ rest) := by simp [recF]
  rw [recF_len] at hj
  by_cases c : j < (encN z.length).length
  · have e9 : ((recF z ++ rest).take j).take 9 = (encN z.length ++ (sum8 z ++ z ++ rest)).take j := by
      rw [List.take_take, Nat.min_eq_right (by omega), e]
    have ht := takeR_cut z.length j c (sum8 z ++ z ++ rest)
    unfold oneOf
    rw [e9, ht]
    rw [if_neg (by simp)]
  · have e9 : ((recF z ++ rest).take j).take 9 = encN z.length ++ (sum8 z ++ z ++ rest).take (min 9 j - (encN z.length).length) := by
      rw [List.take_take, e, List.take_append, List.take_of_length_le (by omega)]
    have ht : takeR (((recF z ++ rest).take j).take 9) = ((z.length : Int), (sum8 z ++ z ++ rest).take (min 9 j - (encN z.length).length), 0) := by
      rw [e9]; exact takeR_enc _ (by omega) _
    have hh : oneHead ((recF z ++ rest).take j) = (encN z.length).length + 8 := by
      unfold oneHead
      rw [ht, e9]
      simp only [List.length_append]
      omega
    have hn : oneN ((recF z ++ rest).take j) = z.length := by unfold oneN; rw [ht]; simp
    unfold oneOf
    rw [hh, hn]
    rw [if_neg (fun c => by have := c.2.2; rw [List.length_take] at this; omega)]

theorem one_nil : oneOf [] = none := by
  unfold oneOf
  rw [if_neg (fun c => by
    have := c.2.2
    have : 8 ≤ oneHead [] := by unfold oneHead; omega
    simp at *
    omega)]

def cutF : List (List UInt8) → Nat → Nat × Nat
  | [], _ => (0, 0)
  | z :: r, k => if (recF z).length ≤ k then ((cutF r (k - (recF z).length)).1 + 1, (cutF r (k - (recF z).length)).2 + (recF z).length) else (0, 0)

theorem read_cut (b : List UInt8) : ∀ (r : List (List UInt8)) (j u m : Nat) (p : List (List UInt8)), (∀ z ∈ r, z.length ≤ 200) → b.drop u = (encF r).take j → (b.drop u).length < m →
    runL (rdStep b) (p, u) (List.replicate m ()) = .inr (p ++ r.take (cutF r j).1, u + (cutF r j).2)
  | [], j, u, m, p, _, hb, hm => by
    obtain ⟨m, rfl⟩ : ∃ m', m = m' + 1 := ⟨m - 1, by omega⟩
    have : b.drop u = [] := by rw [hb]; simp [encF]
    simp only [List.replicate_succ, runL, rdStep, this, one_nil, cutF]
    simp
  | z :: r, j, u, m, p, hr, hb, hm => by
    obtain ⟨m, rfl⟩ : ∃ m', m = m' + 1 := ⟨m - 1, by omega⟩
    have hz := hr z (by simp)
    have e : encF (z :: r) = recF z ++ encF r := by simp [encF]
    by_cases c : (recF z).length ≤ j
    · have hb2 : b.drop u = recF z ++ (encF r).take (j - (recF z).length) := by
        rw [hb, e, List.take_append, List.take_of_length_le c]
      have h1 : oneOf (b.drop u) = some (z, (recF z).length) := by rw [hb2]; exact one_layed z hz _
      have hd : b.drop (u + (recF z).length) = (encF r).take (j - (recF z).length) := by
        rw [← List.drop_drop, hb2, List.drop_left]
      have hlt : (b.drop (u + (recF z).length)).length < m := by
        rw [hd]
        rw [hb2, List.length_append] at hm
        have := recF_len z
        omega
      have ih := read_cut b r (j - (recF z).length) (u + (recF z).length) m (p ++ [z]) (fun y hy => hr y (by simp [hy])) hd hlt
      simp only [List.replicate_succ, runL, rdStep, h1]
      rw [show runL (rdStep b) (p ++ [z], u + (recF z).length) (List.replicate m ()) = _ from ih]
      simp only [cutF, if_pos c, List.take_succ_cons, List.append_assoc, List.cons_append, List.nil_append]
      rw [show u + (recF z).length + (cutF r (j - (recF z).length)).2 = u + ((cutF r (j - (recF z).length)).2 + (recF z).length) by omega]
    · have h1 : oneOf (b.drop u) = none := by rw [hb, e]; exact one_cut z hz _ j (by omega)
      simp only [List.replicate_succ, runL, rdStep, h1, cutF, if_neg c]
      simp

theorem readR_cut (r : List (List UInt8)) (hr : ∀ z ∈ r, z.length ≤ 200) (k : Nat) : readR ((encF r).take k) = (r.take (cutF r k).1, (cutF r k).2) := by
  unfold readR
  rw [read_cut ((encF r).take k) r k 0 _ [] hr (by simp) (by simp)]
  simp

theorem cutF_all : ∀ r : List (List UInt8), cutF r (encF r).length = (r.length, (encF r).length)
  | [] => rfl
  | z :: r => by
    have e : encF (z :: r) = recF z ++ encF r := by simp [encF]
    have := cutF_all r
    rw [e, List.length_append]
    unfold cutF
    rw [if_pos (by omega), Nat.add_sub_cancel_left, this]
    simp only [List.length_cons, Prod.mk.injEq, true_and]
    omega

theorem readR_all (r : List (List UInt8)) (hr : ∀ z ∈ r, z.length ≤ 200) : readR (encF r) = (r, (encF r).length) := by
  have := readR_cut r hr (encF r).length
  rw [List.take_length, cutF_all, List.take_length] at this
  exact this

def cStep (k : Nat) (s : Nat × Nat) (z : List UInt8) : (Nat × Nat) ⊕ (Nat × Nat) := if s.1 + (recF z).length > k then .inr s else .inl (s.1 + (recF z).length, s.2 + 1)
def outS (x : (Nat × Nat) ⊕ (Nat × Nat)) : Nat × Nat := match x with
  | .inl s => s
  | .inr s => s
theorem c_run : ∀ (r : List (List UInt8)) (k a w : Nat), a ≤ k → outS (runL (cStep k) (a, w) r) = (a + (cutF r (k - a)).2, w + (cutF r (k - a)).1)
  | [], k, a, w, _ => by simp [runL, cutF, outS]
  | z :: r, k, a, w, h => by
    by_cases c : (recF z).length ≤ k - a
    · have c' : ¬ (a + (recF z).length > k) := by omega
      have ih := c_run r k (a + (recF z).length) (w + 1) (by omega)
      simp only [runL, cStep, if_neg c']
      refine ih.trans ?_
      simp only [cutF, if_pos c, Nat.sub_sub, Prod.mk.injEq]
      constructor <;> omega
    · have c' : a + (recF z).length > k := by omega
      simp only [runL, cStep, if_pos c', cutF, if_neg c, Nat.add_zero, outS]

end Go.Proofs.Ytachollgbplikaa
