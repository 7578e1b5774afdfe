/- Plain laws: sums, records in a row. -/
import Derived.Test.YtkedeiklmpkgkaaL2
set_option linter.all false
set_option linter.unusedSimpArgs false
namespace Go.Proofs.Ytkedeiklmpkgkaa

def fstep (h c : Int) : Int := IntKind.u64.wrap ((xorI .u64 h c) * 1099511628211)
def sumS (h : Int) (s : List UInt8) : Int := s.foldl (fun h c => fstep h (c.toNat : Int)) h
def sumP (h : Int) (l : List (List UInt8)) : Int := l.foldl (fun h s => fstep (sumS h s) 256) h
def sumOf (l : List (List UInt8)) : Int := sumP 14695981039346656037 l
theorem fstep_range (h c : Int) : 0 ≤ fstep h c ∧ fstep h c < 18446744073709551616 := wrapU_range _
theorem sumP_range : ∀ (l : List (List UInt8)) (h : Int), 0 ≤ h ∧ h < 18446744073709551616 → 0 ≤ sumP h l ∧ sumP h l < 18446744073709551616
  | [], h, q => q
  | s :: l, h, _ => sumP_range l _ (fstep_range _ _)
theorem sumOf_range (l : List (List UInt8)) : 0 ≤ sumOf l ∧ sumOf l < 18446744073709551616 := sumP_range l _ (by decide)

def e8 (h : Nat) : List UInt8 := (List.range 8).map fun k => UInt8.ofNat (h / 256 ^ (7 - k) % 256)
theorem e8_len (h : Nat) : (e8 h).length = 8 := by simp [e8]
def sum8 (s : List UInt8) : List UInt8 := e8 (sumOf [s]).toNat
theorem sum8_len (s : List UInt8) : (sum8 s).length = 8 := e8_len _

def recF (z : List UInt8) : List UInt8 := encN z.length ++ sum8 z ++ z
def encF (r : List (List UInt8)) : List UInt8 := r.flatMap recF
theorem recF_len (z : List UInt8) : (recF z).length = (encN z.length).length + 8 + z.length := by simp [recF, sum8_len]; omega
theorem encF_cons (z : List UInt8) (r : List (List UInt8)) : encF (z :: r) = recF z ++ encF r := by simp [encF]
theorem encF_app (a b : List (List UInt8)) : encF (a ++ b) = encF a ++ encF b := by simp [encF]
theorem encF_snoc (a : List (List UInt8)) (z : List UInt8) : encF (a ++ [z]) = encF a ++ recF z := by simp [encF]
theorem encF_nil : encF [] = [] := rfl

def oneV (b : List UInt8) : Nat := (takeOf b).1.toNat
def oneK (b : List UInt8) : Nat := (takeOf b).2.1.toNat
def oneZ (b : List UInt8) : List UInt8 := (b.drop (oneK b + 8)).take (oneV b)
/-- A record, and how many bytes it takes. -/
def oneOf (b : List UInt8) : Option (List UInt8 × Nat) :=
  if (takeOf b).2.2 = 0 ∧ oneV b ≤ 4000 ∧ oneK b + 8 + oneV b ≤ b.length ∧ sum8 (oneZ b) = (b.drop (oneK b)).take 8 then some (oneZ b, oneK b + 8 + oneV b) else none

theorem oneOf_pos {b r : List UInt8} {n : Nat} (h : oneOf b = some (r, n)) : 8 ≤ n ∧ n ≤ b.length ∧ r.length ≤ 4000 ∧ r.length + 8 ≤ n := by
  unfold oneOf at h
  split at h
  · rename_i c
    obtain ⟨rfl, rfl⟩ := Prod.mk.inj (Option.some.inj h)
    have hl : (oneZ b).length ≤ oneV b := by unfold oneZ; rw [List.length_take]; omega
    exact ⟨by omega, by omega, by omega, by omega⟩
  · cases h

theorem one_layed (z : List UInt8) (h : z.length ≤ 4000) (rest : List UInt8) : oneOf (recF z ++ rest) = some (z, (recF z).length) := by
  have e : recF z ++ rest = encN z.length ++ (sum8 z ++ z ++ rest) := by simp [recF]
  have ht := takeOf_enc z.length (by omega) (sum8 z ++ z ++ rest)
  rw [← e] at ht
  have hk : oneK (recF z ++ rest) = (encN z.length).length := by unfold oneK; rw [ht]; simp
  have hv : oneV (recF z ++ rest) = z.length := by unfold oneV; rw [ht]; simp
  have h8 := sum8_len z
  have hz : oneZ (recF z ++ rest) = z := by
    unfold oneZ
    rw [hk, hv, e, ← List.drop_drop, List.drop_left, List.append_assoc, List.drop_left' h8, List.take_left]
  have hs : ((recF z ++ rest).drop (encN z.length).length).take 8 = sum8 z := by
    rw [e, List.drop_left, List.append_assoc, List.take_left' h8]
  unfold oneOf
  rw [hz, hk, hv, hs, ht, if_pos ⟨rfl, h, by rw [List.length_append, recF_len]; omega, rfl⟩, recF_len]

theorem one_cut (z : List UInt8) (h : z.length ≤ 4000) (rest : List UInt8) (j : Nat) (hj : j < (recF z).length) : oneOf ((recF z ++ rest).take j) = none := by
  have e : recF z ++ rest = encN z.length ++ (sum8 z ++ z ++ rest) := by simp [recF]
  rw [recF_len] at hj
  unfold oneOf
  by_cases c : j < (encN z.length).length
  · rw [e, takeOf_cut z.length j c, if_neg (by rintro ⟨q, _⟩; cases q)]
  · have ht : takeOf ((recF z ++ rest).take j) = ((z.length : Int), ((encN z.length).length : Int), 0) := by
      rw [e, List.take_append, List.take_of_length_le (by omega)]
      exact takeOf_enc z.length (by omega) _
    have hk : oneK ((recF z ++ rest).take j) = (encN z.length).length := by unfold oneK; rw [ht]; simp
    have hv : oneV ((recF z ++ rest).take j) = z.length := by unfold oneV; rw [ht]; simp
    rw [hk, hv, if_neg]
    rintro ⟨_, _, q, _⟩
    rw [List.length_take] at q
    omega

theorem one_nil : oneOf [] = none := by
  unfold oneOf
  rw [if_neg]
  rintro ⟨_, _, q, _⟩
  simp at q

/-- All whole records, and how many bytes they take. -/
def readR (b : List UInt8) : List (List UInt8) × Nat :=
  match h : oneOf b with
  | none => ([], 0)
  | some (r, n) => (r :: (readR (b.drop n)).1, n + (readR (b.drop n)).2)
termination_by b.length
decreasing_by all_goals (have := oneOf_pos h; rw [List.length_drop]; omega)

theorem readR_none {b : List UInt8} (h : oneOf b = none) : readR b = ([], 0) := by
  rw [readR]
  split
  · rfl
  · rename_i e; rw [h] at e; cases e
theorem readR_some {b r : List UInt8} {n : Nat} (h : oneOf b = some (r, n)) : readR b = (r :: (readR (b.drop n)).1, n + (readR (b.drop n)).2) := by
  rw [readR]
  split
  · rename_i e; rw [h] at e; cases e
  · rename_i e
    rw [h] at e
    obtain ⟨rfl, rfl⟩ := Prod.mk.inj (Option.some.inj e)
    rfl

theorem readR_le (b : List UInt8) : (readR b).2 ≤ b.length ∧ (readR b).1.length ≤ (readR b).2 ∧ ∀ z ∈ (readR b).1, z.length ≤ 4000 := by
  generalize hn : b.length = n
  induction n using Nat.strongRecOn generalizing b with
  | _ n ih =>
    subst hn
    cases h : oneOf b with
    | none => rw [readR_none h]; simp
    | some p =>
      obtain ⟨r, n⟩ := p
      have hp := oneOf_pos h
      have := ih (b.drop n).length (by rw [List.length_drop]; omega) (b.drop n) rfl
      rw [readR_some h]
      rw [List.length_drop] at this
      simp only [List.length_cons, List.mem_cons, forall_eq_or_imp]
      exact ⟨by omega, by omega, hp.2.2.1, this.2.2⟩

theorem readR_nil : readR [] = ([], 0) := readR_none one_nil
theorem readR_rec (z : List UInt8) (h : z.length ≤ 4000) (T : List UInt8) : readR (recF z ++ T) = (z :: (readR T).1, (recF z).length + (readR T).2) := by
  rw [readR_some (one_layed z h T), List.drop_left]
theorem readR_then (T : List UInt8) : ∀ (r : List (List UInt8)), (∀ z ∈ r, z.length ≤ 4000) → readR (encF r ++ T) = (r ++ (readR T).1, (encF r).length + (readR T).2)
  | [], _ => by simp [encF]
  | z :: r, h => by
    rw [encF_cons, List.append_assoc, readR_rec z (h z (by simp)), readR_then T r fun y hy => h y (by simp [hy])]
    simp only [List.cons_append, List.length_append, Prod.mk.injEq, true_and]
    omega
theorem readR_all (r : List (List UInt8)) (h : ∀ z ∈ r, z.length ≤ 4000) : readR (encF r) = (r, (encF r).length) := by
  have := readR_then [] r h
  rw [readR_nil] at this
  simpa using this

/-- Cut after so many bytes: how many records are whole, how many bytes these take. -/
def cutF : List (List UInt8) → Nat → Nat × Nat
  | [], _ => (0, 0)
  | z :: r, k => if (recF z).length ≤ k then ((cutF r (k - (recF z).length)).1 + 1, (cutF r (k - (recF z).length)).2 + (recF z).length) else (0, 0)

theorem readR_cut : ∀ (r : List (List UInt8)) (h : ∀ z ∈ r, z.length ≤ 4000) (k : Nat), readR ((encF r).take k) = (r.take (cutF r k).1, (cutF r k).2)
  | [], _, k => by simp [encF, readR_nil, cutF]
  | z :: r, h, k => by
    rw [encF_cons]
    unfold cutF
    by_cases c : (recF z).length ≤ k
    · rw [if_pos c, List.take_append, List.take_of_length_le c, readR_rec z (h z (by simp)), readR_cut r (fun y hy => h y (by simp [hy]))]
      simp only [List.take_succ_cons, Prod.mk.injEq, true_and]
      omega
    · rw [if_neg c, readR_none (one_cut z (h z (by simp)) _ k (by omega))]
      simp

theorem cutF_all : ∀ r : List (List UInt8), cutF r (encF r).length = (r.length, (encF r).length)
  | [] => rfl
  | z :: r => by
    have := cutF_all r
    rw [encF_cons, List.length_append]
    unfold cutF
    rw [if_pos (by omega), Nat.add_sub_cancel_left, this]
    simp only [List.length_cons, Prod.mk.injEq, true_and]
    omega
theorem cutF_le : ∀ (r : List (List UInt8)) (k : Nat), (cutF r k).1 ≤ r.length ∧ (cutF r k).2 ≤ k ∧ (cutF r k).2 = (encF (r.take (cutF r k).1)).length
  | [], k => by simp [cutF, encF]
  | z :: r, k => by
    unfold cutF
    split
    · have := cutF_le r (k - (recF z).length)
      simp only [List.length_cons, List.take_succ_cons, encF_cons, List.length_append]
      omega
    · simp [encF]

end Go.Proofs.Ytkedeiklmpkgkaa
