/- Bytes and numbers: plain words. -/
import Derived.Test.YtachollgbplikaaVt
set_option linter.all false
set_option linter.unusedSimpArgs false
namespace Go.Proofs.Ytachollgbplikaa

abbrev fr1 (H : Heap) : Fr := { mark := H.next, tidy := [] }
/-- Bytes of one's own, the frame's first block. -/
abbrev accB (H : Heap) (s : List UInt8) : AV := .acc H.next 0 1 s.length true
abbrev blkB (H : Heap) (s : List UInt8) : Heap := H.push (.cells (s.map byteC) false true)

/-- Numbers of one's own, the frame's first block. -/
abbrev accI (H : Heap) (l : List Int) : AV := .acc H.next 0 1 l.length true
abbrev blkI (H : Heap) (l : List Int) : Heap := H.push (.cells (l.map (.int .i64)) false true)

/-- A number's bytes, but the last; the last one. -/
def hiN (n : Nat) : List UInt8 := if n < 128 then [] else UInt8.ofNat (n % 128 + 128) :: hiN (n / 128)
termination_by n
decreasing_by omega
def loN (n : Nat) : Nat := if n < 128 then n else loN (n / 128)
termination_by n
decreasing_by omega
def encN (n : Nat) : List UInt8 := hiN n ++ [UInt8.ofNat (loN n)]

theorem hiN_small {n : Nat} (h : n < 128) : hiN n = [] := by rw [hiN, if_pos h]
theorem hiN_big {n : Nat} (h : ¬ n < 128) : hiN n = UInt8.ofNat (n % 128 + 128) :: hiN (n / 128) := by rw [hiN, if_neg h]
theorem loN_small {n : Nat} (h : n < 128) : loN n = n := by rw [loN, if_pos h]
theorem loN_big {n : Nat} (h : ¬ n < 128) : loN n = loN (n / 128) := by rw [loN, if_neg h]
theorem loN_lt (n : Nat) : loN n < 128 := by
  induction n using Nat.strongRecOn with
  | _ n ih =>
    by_cases h : n < 128
    · rw [loN_small h]; exact h
    · rw [loN_big h]; exact ih _ (by omega)

theorem iand_127 {x : Nat} (h : x < 9223372036854775808) : iand .i64 (x : Int) 127 = ((x % 128 : Nat) : Int) := by
  have e : (BitVec.ofInt 64 (x : Int) &&& BitVec.ofInt 64 127).toNat = x % 128 := by
    rw [BitVec.toNat_and, BitVec.toNat_ofInt, BitVec.toNat_ofInt]
    have h1 : ((x : Int) % ((2 ^ 64 : Nat) : Int)).toNat = x := by omega
    have h2 : ((127 : Int) % ((2 ^ 64 : Nat) : Int)).toNat = 2 ^ 7 - 1 := by decide
    rw [h1, h2, Nat.and_two_pow_sub_one_eq_mod]
  show IntKind.i64.wrap (((BitVec.ofInt 64 (x : Int) &&& BitVec.ofInt 64 127).toNat : Nat) : Int) = _
  rw [e, wrap_i64] <;> omega

theorem ior_128 {m : Nat} (h : m < 128) : ior .i64 (m : Int) 128 = ((m + 128 : Nat) : Int) := by
  have e : (BitVec.ofInt 64 (m : Int) ||| BitVec.ofInt 64 128).toNat = m + 128 := by
    rw [BitVec.toNat_or, BitVec.toNat_ofInt, BitVec.toNat_ofInt]
    have h1 : ((m : Int) % ((2 ^ 64 : Nat) : Int)).toNat = m := by omega
    have h2 : ((128 : Int) % ((2 ^ 64 : Nat) : Int)).toNat = 2 ^ 7 * 1 := by decide
    rw [h1, h2, Nat.or_comm, ← Nat.two_pow_add_eq_or_of_lt (by omega)]
    omega
  show IntKind.i64.wrap (((BitVec.ofInt 64 (m : Int) ||| BitVec.ofInt 64 128).toNat : Nat) : Int) = _
  rw [e, wrap_i64] <;> omega

theorem wrap_u8' {n : Nat} (h : n < 256) : IntKind.u8.wrap (n : Int) = n := by
  simp [IntKind.wrap, IntKind.signed, IntKind.bits]
  omega

theorem byteC_ofNat {n : Nat} (h : n < 256) : byteC (UInt8.ofNat n) = .int .u8 n := by
  unfold byteC
  rw [UInt8.toNat_ofNat', Nat.mod_eq_of_lt h]

theorem take_map {α β : Type} (f : α → β) (s : List α) : List.take s.length (List.map f s) = List.map f s := by rw [List.take_of_length_le]; simp

def numsOk (x : Int) : Bool := decide (0 ≤ x ∧ x ≤ 4611686018427387903)
def putStep (s : List UInt8) (x : Int) : List UInt8 ⊕ List UInt8 := if numsOk x then .inl (s ++ encN x.toNat) else .inr s
theorem hiN_len (j : Nat) : ∀ x : Nat, x < 128 ^ (j + 1) → (hiN x).length ≤ j := by
  induction j with
  | zero => intro x hx; rw [hiN_small (by simpa using hx)]; simp
  | succ j ih =>
    intro x hx
    by_cases c : x < 128
    · rw [hiN_small c]; simp
    · rw [hiN_big c]
      have := ih (x / 128) (by rw [Nat.pow_succ] at hx; omega)
      simp only [List.length_cons]
      omega

theorem encN_len (x : Nat) (hx : x < 128 ^ 9) : (encN x).length ≤ 9 := by
  have := hiN_len 8 x hx
  simp [encN]; omega

/-- What Put tells. -/
def putOf (s : List UInt8) (l : List Int) : List UInt8 := match runL putStep s l with
  | .inl r => r
  | .inr _ => []

theorem wrap_i64_range (x : Int) : -9223372036854775808 ≤ IntKind.i64.wrap x ∧ IntKind.i64.wrap x ≤ 9223372036854775807 := by
  simp [IntKind.wrap, IntKind.signed, IntKind.bits]
  omega

theorem clone_at {kn K d : Nat} (hk : isKn kn = true) (fr : Fr) (H : Heap) (s : List UInt8) (ex : Bool) (hs : s.length ≤ 1099511627776) :
    vcall kn vtab K (d + 1) fr 80 [.list 1 s.length (s.map byteC) ex] H = some (.acc H.next 0 1 s.length true, H.push (.cells (s.map byteC) false true)) := by
  rw [sum_of hk rfl rfl (g := cloneSem 1 1) rfl]
  have h1 : s.length ≤ 70368744177664 := by omega
  simp [cloneSem, vElemSize, vElems, fitsB, h1]
theorem clip_at {kn K d : Nat} (hk : isKn kn = true) (fr : Fr) (H : Heap) (b n : Nat) :
    vcall kn vtab K (d + 1) fr 84 [.acc b 0 1 n true] H = some (.acc b 0 1 n true, H) := by
  rw [sum_of hk rfl rfl (g := clipSem 1) rfl]
  simp [clipSem]

end Go.Proofs.Ytachollgbplikaa
