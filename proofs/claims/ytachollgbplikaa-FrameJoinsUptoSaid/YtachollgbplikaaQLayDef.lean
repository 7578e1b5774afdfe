/- frame.Lay: what it tells. -/
import Derived.Test.YtachollgbplikaaQPut
import Derived.Test.YtachollgbplikaaQFrame2
set_option linter.all false
set_option linter.unusedSimpArgs false
namespace Go.Proofs.Ytachollgbplikaa

def frzT (b sz n : Nat) (ex : Bool) (x : Option (List AV × List Nat)) : Option (AV × List Nat) := match x with
  | some p => some (.list sz n p.1 ex, b :: p.2)
  | none => none
theorem frzT_some (b sz n : Nat) (ex : Bool) (p : List AV × List Nat) : frzT b sz n ex (some p) = some (.list sz n p.1 ex, b :: p.2) := id rfl
theorem frzS_t (g : AV → Option (AV × List Nat)) (b sz n : Nat) (ex : Bool) (cs : List AV) : frzS g b sz n ex (some cs) = frzT b sz n ex (frzL g cs) := id rfl

theorem putOf_one (s : List UInt8) {x : Nat} (h : x ≤ 4611686018427387903) : putOf s [(x : Int)] = s ++ encN x := by
  have : numsOk (x : Int) = true := by simp [numsOk]; omega
  simp [putOf, runL, putStep, this]

def layStep (out r : List UInt8) : List UInt8 := out ++ (encN r.length ++ sum8 r ++ r)
def layOf (b : List UInt8) (L : List (List UInt8)) : List UInt8 := L.foldl layStep b

theorem layStep_len (out r : List UInt8) (h : r.length ≤ 200) : (layStep out r).length ≤ out.length + 217 := by
  have h2 := encN_len r.length (by
    have : (128 : Nat) ^ 9 = 9223372036854775808 := by decide
    omega)
  have h8 := sum8_len r
  simp only [layStep, List.length_append, h8]
  omega

abbrev lstE (l : List (List UInt8)) (e : Bool) : AV := .list 1 l.length (l.map lst) e

end Go.Proofs.Ytachollgbplikaa
