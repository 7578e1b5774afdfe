/- Takes, plain: one number behind the other. -/
import Derived.Test.YtecjbeljchbihaaQTakes
set_option linter.all false
set_option linter.unusedSimpArgs false
namespace Go.Proofs.Ytecjbeljchbihaa

theorem idx_none : ∀ (s : List UInt8) (a : Nat), (∃ x, runL idxStep a s = .inl x) ↔ ∀ b ∈ s, 128 ≤ b.toNat
  | [], a => by simp [runL]
  | b :: s, a => by
    have ih := idx_none s (a + 1)
    by_cases c : b.toNat < 128
    · have c' : ¬ 128 ≤ b.toNat := by omega
      simp [runL, idxStep, c, c']
    · have c' : 128 ≤ b.toNat := by omega
      simpa [runL, idxStep, c, c'] using ih

theorem idxOf_none (s : List UInt8) : idxOf s = none ↔ ∀ b ∈ s, 128 ≤ b.toNat := by
  rw [← idx_none s 0]
  unfold idxOf
  cases runL idxStep 0 s <;> simp

def rtakesStep (p : List Int × List UInt8) (_ : Unit) : (List Int × List UInt8) ⊕ (Int × List Int × List UInt8) :=
  if (takeR p.2).2.2 = 0 then .inl (p.1 ++ [(takeR p.2).1], (takeR p.2).2.1) else .inr ((takeR p.2).2.2, p.1, p.2)

theorem takeR_len (s : List UInt8) : (takeR s).2.1.length ≤ s.length := by
  simp only [takeR]
  split
  · simp
  · simp

theorem rtakes_eq (s : List UInt8) : ∀ (n : Nat) (l : List Int) (a : Nat), (match runL rtakesStep (l, s.drop a) (List.replicate n ()) with
    | .inl p => ((p.1, p.2, 0) : List Int × List UInt8 × Int)
    | .inr e => ([], [], e.1)) = (match runL (takesStep s) (l, a) (List.replicate n ()) with
    | .inl p => (p.1, s.drop p.2, 0)
    | .inr e => ([], [], e.1))
  | 0, l, a => by simp [runL]
  | n + 1, l, a => by
    simp only [List.replicate_succ, runL, rtakesStep, takesStep]
    by_cases he : (takeOf (s.drop a)).2.2 = 0
    · have : takeR (s.drop a) = ((takeOf (s.drop a)).1, (s.drop a).drop (takeOf (s.drop a)).2.1.toNat, 0) := by simp only [takeR, if_pos he]
      rw [this]
      simp only [if_true, if_pos he]
      rw [List.drop_drop]
      exact rtakes_eq s n _ _
    · have : takeR (s.drop a) = (0, [], (takeOf (s.drop a)).2.2) := by simp only [takeR, if_neg he]
      rw [this]
      simp only [if_neg he]

end Go.Proofs.Ytecjbeljchbihaa
