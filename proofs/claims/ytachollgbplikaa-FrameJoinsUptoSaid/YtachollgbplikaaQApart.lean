/- Sums apart; a record whose sum is another one is not read: plain. -/
import Derived.Test.YtachollgbplikaaQCut
set_option linter.all false
set_option linter.unusedSimpArgs false
namespace Go.Proofs.Ytachollgbplikaa

theorem fstep_range (h b : Int) : 0 ≤ fstep h b ∧ fstep h b < 18446744073709551616 := by
  simp [fstep, IntKind.wrap, IntKind.signed, IntKind.bits]
  omega
theorem sumBytes_range : ∀ (s : List UInt8) (h : Int), 0 ≤ h → h < 18446744073709551616 → 0 ≤ sumBytes h s ∧ sumBytes h s < 18446744073709551616
  | [], h, h1, h2 => ⟨h1, h2⟩
  | c :: s, h, h1, h2 => sumBytes_range s (fstep h c.toNat) (fstep_range _ _).1 (fstep_range _ _).2

def bstep (h c : BitVec 64) : BitVec 64 := (h ^^^ c) * 1099511628211#64

theorem fstep_b (h c : Int) : fstep h c = (bstep (BitVec.ofInt 64 h) (BitVec.ofInt 64 c)).toNat := by
  have h1 : ∀ v : BitVec 64, IntKind.u64.wrap (v.toNat : Int) = v.toNat := by
    intro v
    have := v.isLt
    rw [wrap_u64] <;> omega
  have h2 : ixor .u64 h c = ((BitVec.ofInt 64 h ^^^ BitVec.ofInt 64 c).toNat : Int) := by
    unfold ixor
    exact h1 _
  unfold fstep bstep
  rw [h2, BitVec.toNat_mul]
  generalize (BitVec.ofInt 64 h ^^^ BitVec.ofInt 64 c).toNat = m
  simp [IntKind.wrap, IntKind.signed, IntKind.bits]

theorem bstep_inj {h h' c c' : BitVec 64} (e : bstep h c = bstep h' c') : h ^^^ c = h' ^^^ c' := by
  unfold bstep at e
  have := congrArg (· * 14886173955864302971#64) e
  simp only [BitVec.mul_assoc] at this
  have hp : 1099511628211#64 * 14886173955864302971#64 = 1#64 := by decide
  rw [hp, BitVec.mul_one, BitVec.mul_one] at this
  exact this

theorem xor_cancel {h h' c : BitVec 64} (e : h ^^^ c = h' ^^^ c) : h = h' := by
  have := congrArg (· ^^^ c) e
  simp only [BitVec.xor_assoc, BitVec.xor_self, BitVec.xor_zero] at this
  exact this

theorem toNat_inj {v w : BitVec 64} (e : (v.toNat : Int) = w.toNat) : v = w := BitVec.eq_of_toNat_eq (by omega)

theorem ofInt_inj {h h' : Int} (h1 : 0 ≤ h ∧ h < 18446744073709551616) (h2 : 0 ≤ h' ∧ h' < 18446744073709551616) (e : BitVec.ofInt 64 h = BitVec.ofInt 64 h') : h = h' := by
  have := congrArg BitVec.toNat e
  simp only [BitVec.toNat_ofInt] at this
  omega

theorem fstep_left {h h' c : Int} (h1 : 0 ≤ h ∧ h < 18446744073709551616) (h2 : 0 ≤ h' ∧ h' < 18446744073709551616) (e : fstep h c = fstep h' c) : h = h' := by
  rw [fstep_b, fstep_b] at e
  exact ofInt_inj h1 h2 (xor_cancel (bstep_inj (toNat_inj e)))

theorem fstep_right {h c c' : Int} (h1 : 0 ≤ c ∧ c < 18446744073709551616) (h2 : 0 ≤ c' ∧ c' < 18446744073709551616) (e : fstep h c = fstep h c') : c = c' := by
  rw [fstep_b, fstep_b] at e
  have := bstep_inj (toNat_inj e)
  rw [BitVec.xor_comm, BitVec.xor_comm (BitVec.ofInt 64 h)] at this
  exact ofInt_inj h1 h2 (xor_cancel this)

theorem sumBytes_left (s : List UInt8) : ∀ {h h' : Int}, (0 ≤ h ∧ h < 18446744073709551616) → (0 ≤ h' ∧ h' < 18446744073709551616) → sumBytes h s = sumBytes h' s → h = h' := by
  induction s with
  | nil => intro h h' _ _ e; exact e
  | cons c s ih =>
    intro h h' h1 h2 e
    exact fstep_left h1 h2 (ih (fstep_range _ _) (fstep_range _ _) e)

theorem apart (a b : List UInt8) (x y : UInt8) : (sumOf [a ++ [x] ++ b] = sumOf [a ++ [y] ++ b]) ↔ x = y := by
  refine ⟨fun e => ?_, fun e => by rw [e]⟩
  have r : ∀ (s : List UInt8), 0 ≤ sumBytes 14695981039346656037 s ∧ sumBytes 14695981039346656037 s < 18446744073709551616 := fun s => sumBytes_range s _ (by omega) (by omega)
  have e1 : fstep (sumBytes 14695981039346656037 (a ++ [x] ++ b)) 256 = fstep (sumBytes 14695981039346656037 (a ++ [y] ++ b)) 256 := e
  have e2 := fstep_left (r _) (r _) e1
  have e3 : ∀ z : UInt8, sumBytes 14695981039346656037 (a ++ [z] ++ b) = sumBytes (fstep (sumBytes 14695981039346656037 a) z.toNat) b := by
    intro z
    simp [sumBytes, List.foldl_append]
  rw [e3, e3] at e2
  have e4 := sumBytes_left b (fstep_range _ _) (fstep_range _ _) e2
  have hx := x.toNat_lt
  have hy := y.toNat_lt
  have e5 := fstep_right ⟨by omega, by omega⟩ ⟨by omega, by omega⟩ e4
  exact UInt8.toNat_inj.1 (by omega)


theorem sumOf_range (s : List UInt8) : 0 ≤ sumOf [s] ∧ sumOf [s] < 18446744073709551616 := fstep_range _ _

theorem sum8_inj {s t : List UInt8} (e : sum8 s = sum8 t) : sumOf [s] = sumOf [t] := by
  obtain ⟨a1, a2⟩ := sumOf_range s
  obtain ⟨b1, b2⟩ := sumOf_range t
  unfold sum8 at e
  generalize sumOf [s] = x at *
  generalize sumOf [t] = y at *
  have hk : ∀ k, k < 8 → sByte x k = sByte y k := by
    intro k hk
    have := congrArg (fun l => l[k]?) e
    simpa [hk] using this
  have hv : ∀ k, k < 8 → IntKind.u8.wrap (x.fdiv (2 ^ (min (8 * (7 - k)) 64))) = IntKind.u8.wrap (y.fdiv (2 ^ (min (8 * (7 - k)) 64))) := by
    intro k h
    have h1 := sByte_byteC x k
    rw [hk k h, sByte_byteC y k] at h1
    simp only [AV.int.injEq, true_and] at h1
    exact h1.symm
  have u8 : ∀ z : Int, IntKind.u8.wrap z = z % 256 := by
    intro z
    simp [IntKind.wrap, IntKind.signed, IntKind.bits]
  have d : ∀ (z : Int) (n : Nat), z.fdiv (2 ^ n) = z / 2 ^ n := fun z n => Int.fdiv_eq_ediv_of_nonneg _ (by exact_mod_cast Nat.zero_le _)
  have v0 := hv 0 (by omega)
  have v1 := hv 1 (by omega)
  have v2 := hv 2 (by omega)
  have v3 := hv 3 (by omega)
  have v4 := hv 4 (by omega)
  have v5 := hv 5 (by omega)
  have v6 := hv 6 (by omega)
  have v7 := hv 7 (by omega)
  rw [u8, u8, d, d] at v0 v1 v2 v3 v4 v5 v6 v7
  simp only [show min (8 * (7 - 0)) 64 = 56 from rfl, show min (8 * (7 - 1)) 64 = 48 from rfl, show min (8 * (7 - 2)) 64 = 40 from rfl, show min (8 * (7 - 3)) 64 = 32 from rfl, show min (8 * (7 - 4)) 64 = 24 from rfl, show min (8 * (7 - 5)) 64 = 16 from rfl, show min (8 * (7 - 6)) 64 = 8 from rfl, show min (8 * (7 - 7)) 64 = 0 from rfl,
    show (2 : Int) ^ 56 = 72057594037927936 from rfl, show (2 : Int) ^ 48 = 281474976710656 from rfl, show (2 : Int) ^ 40 = 1099511627776 from rfl, show (2 : Int) ^ 32 = 4294967296 from rfl, show (2 : Int) ^ 24 = 16777216 from rfl, show (2 : Int) ^ 16 = 65536 from rfl, show (2 : Int) ^ 8 = 256 from rfl, show (2 : Int) ^ 0 = 1 from rfl] at v0 v1 v2 v3 v4 v5 v6 v7
  omega

/-- Unlike in one byte alone. -/
theorem sum8_apart (a b : List UInt8) (x y : UInt8) (h : x ≠ y) : sum8 (a ++ [x] ++ b) ≠ sum8 (a ++ [y] ++ b) := fun e => h ((apart a b x y).1 (sum8_inj e))

theorem one_bad (n : Nat) (hn : n ≤ 200) (X rest : List UInt8) (hX : X.length = 8 + n) (hbad : sum8 (X.drop 8) ≠ X.take 8) : oneOf (encN n ++ X ++ rest) = none := by
  have h9 : (encN n).length ≤ 9 := encN_len n (by
    have : (128 : Nat) ^ 9 = 9223372036854775808 := by decide
    omega)
  have e : encN n ++ X ++ rest = encN n ++ (X ++ rest) := List.append_assoc _ _ _
  have e9 : (encN n ++ X ++ rest).take 9 = encN n ++ (X ++ rest).take (9 - (encN n).length) := by
    rw [e, List.take_append, List.take_of_length_le h9]
  have ht : takeR ((encN n ++ X ++ rest).take 9) = ((n : Int), (X ++ rest).take (9 - (encN n).length), 0) := by
    rw [e9]; exact takeR_enc _ (by omega) _
  have hh : oneHead (encN n ++ X ++ rest) = (encN n).length + 8 := by
    unfold oneHead
    rw [ht, e9]
    simp only [List.length_append]
    omega
  have hn' : oneN (encN n ++ X ++ rest) = n := by unfold oneN; rw [ht]; simp
  have hrec : oneRec (encN n ++ X ++ rest) = X.drop 8 := by
    unfold oneRec
    rw [hh, hn', e, ← List.drop_drop, List.drop_left, List.drop_append_of_le_length (by omega), List.take_left' (by rw [List.length_drop]; omega)]
  have hs : ((encN n ++ X ++ rest).drop (oneHead (encN n ++ X ++ rest) - 8)).take 8 = X.take 8 := by
    rw [hh, Nat.add_sub_cancel, e, List.drop_left, List.take_append_of_le_length (by omega)]
  unfold oneOf
  rw [hs, hrec, if_neg hbad]
  split <;> rfl

theorem read_then (b : List UInt8) (T : List UInt8) (hT : oneOf T = none) : ∀ (r : List (List UInt8)) (u m : Nat) (p : List (List UInt8)), (∀ z ∈ r, z.length ≤ 200) → b.drop u = encF r ++ T → (b.drop u).length < m →
    runL (rdStep b) (p, u) (List.replicate m ()) = .inr (p ++ r, u + (encF r).length)
  | [], u, m, p, _, hb, hm => by
    obtain ⟨m, rfl⟩ : ∃ m', m = m' + 1 := ⟨m - 1, by omega⟩
    have : oneOf (b.drop u) = none := by rw [hb]; simpa [encF] using hT
    simp only [List.replicate_succ, runL, rdStep, this]
    simp [encF]
  | z :: r, u, m, p, hr, hb, hm => by
    obtain ⟨m, rfl⟩ : ∃ m', m = m' + 1 := ⟨m - 1, by omega⟩
    have hz := hr z (by simp)
    have hb2 : b.drop u = recF z ++ (encF r ++ T) := by rw [hb]; simp [encF]
    have h1 : oneOf (b.drop u) = some (z, (recF z).length) := by rw [hb2]; exact one_layed z hz _
    have hd : b.drop (u + (recF z).length) = encF r ++ T := by
      rw [← List.drop_drop, hb2, List.drop_left]
    have hlt : (b.drop (u + (recF z).length)).length < m := by
      rw [hd]
      rw [hb2, List.length_append] at hm
      have := recF_len z
      omega
    have ih := read_then b T hT r (u + (recF z).length) m (p ++ [z]) (fun y hy => hr y (by simp [hy])) hd hlt
    simp only [List.replicate_succ, runL, rdStep, h1]
    rw [show runL (rdStep b) (p ++ [z], u + (recF z).length) (List.replicate m ()) = _ from ih]
    simp only [List.append_assoc, List.cons_append, List.nil_append, encF, List.flatMap_cons, List.length_append]
    rw [show u + (recF z).length + (List.flatMap recF r).length = u + ((recF z).length + (List.flatMap recF r).length) by omega]

theorem readR_then (r : List (List UInt8)) (hr : ∀ z ∈ r, z.length ≤ 200) (T : List UInt8) (hT : oneOf T = none) : readR (encF r ++ T) = (r, (encF r).length) := by
  unfold readR
  rw [read_then (encF r ++ T) T hT r 0 _ [] hr (by simp) (by simp)]
  simp

theorem set_split {s : List UInt8} {i : Nat} (hi : i < s.length) (v : UInt8) : s.set i v = s.take i ++ [v] ++ s.drop (i + 1) ∧ s = s.take i ++ [s[i]] ++ s.drop (i + 1) := by
  refine ⟨by rw [List.set_eq_take_append_cons_drop, if_pos hi]; simp, ?_⟩
  rw [List.append_assoc, List.singleton_append, ← List.drop_eq_getElem_cons hi, List.take_append_drop]

/-- A byte that is turned behind the length. -/
theorem one_turned (z rest : List UInt8) (hz : z.length ≤ 200) (p : Nat) (hp : p < z.length + 8) (v : UInt8) (hv : v ≠ (sum8 z ++ z)[p]'(by rw [List.length_append, sum8_len]; omega)) :
    oneOf (encN z.length ++ (sum8 z ++ z).set p v ++ rest) = none := by
  have h8 := sum8_len z
  refine one_bad _ hz _ _ (by rw [List.length_set, List.length_append, h8]) ?_
  by_cases c : p < 8
  · have e1 : ((sum8 z ++ z).set p v).drop 8 = z := by
      rw [List.drop_set_of_lt c, List.drop_left' h8]
    have e2 : ((sum8 z ++ z).set p v).take 8 = (sum8 z).set p v := by
      rw [List.set_append_left _ _ (by omega), List.take_left' (by rw [List.length_set, h8])]
    rw [e1, e2]
    intro e
    apply hv
    have h1 := congrArg (fun l => l[p]?) e
    simp only [List.getElem?_set, h8, c, if_true] at h1
    rw [List.getElem_append_left (by omega)]
    rw [List.getElem?_eq_getElem (by omega)] at h1
    exact (Option.some.inj h1).symm
  · have e1 : ((sum8 z ++ z).set p v).drop 8 = z.set (p - 8) v := by
      rw [List.set_append_right _ _ (by omega), h8, List.drop_left' h8]
    have e2 : ((sum8 z ++ z).set p v).take 8 = sum8 z := by
      rw [List.set_append_right _ _ (by omega), List.take_left' h8]
    rw [e1, e2]
    have hi : p - 8 < z.length := by omega
    obtain ⟨s1, s2⟩ := set_split hi v
    intro e
    rw [s1] at e
    have : v = z[p - 8] := by
      refine Classical.byContradiction fun hne => ?_
      refine sum8_apart (z.take (p - 8)) (z.drop (p - 8 + 1)) v z[p - 8] hne ?_
      rw [e, ← s2]
    apply hv
    rw [this, List.getElem_append_right (by omega)]
    simp only [h8]

end Go.Proofs.Ytachollgbplikaa
