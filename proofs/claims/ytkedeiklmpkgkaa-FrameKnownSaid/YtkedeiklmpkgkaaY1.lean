/- Functions as Lean functions, part 1. -/
import Derived.Test.YtkedeiklmpkgkaaXt
import Derived.Test.YtkedeiklmpkgkaaXs
set_option linter.all false
set_option maxRecDepth 100000
namespace Go.Proofs.Ytkedeiklmpkgkaa
/- osmosis/hash.Sum -/
def st_hash_Sum_L0 (x8 : List UInt8) (parts : List (List UInt8)) (s7 : Int × Int) (s11 : Int × Int) : List AV × WH := ([(.int .u64 s11.1), (l_S parts), (.int .i64 (parts.length : Int)), (.int .i64 s7.2), (.acc 0 0 1 x8.length true), (.int .i64 (x8.length : Int)), (.int .i64 s11.2)], [(some (.cells (F_B x8) false true))])
def fin_hash_Sum_L0 (x8 : List UInt8) (parts : List (List UInt8)) (s7 : Int × Int) : Int → Ex × Fast × WH := fun e => ((.exit 2), [(3, (.int .u64 e)), (8, (l_S parts)), (9, (.int .i64 (parts.length : Int))), (10, (.int .i64 s7.2))], [])
abbrev rx_hash_Sum_L0 (x8 : List UInt8) (parts : List (List UInt8)) (s7 : Int × Int) := roundX [3, 8, 9, 10, 15, 16, 17] (st_hash_Sum_L0 x8 parts s7) (fin_hash_Sum_L0 x8 parts s7)
def hash_Sum_L0_s (x8 : List UInt8) (parts : List (List UInt8)) (s7 : Int × Int) (s11 : Int × Int) : Option ((Int × Int) ⊕ (Int)) :=
  cond (decide (s11.2 < (x8.length : Int))) ((getI x8 s11.2).bind fun (x12 : UInt8) => some (.inl ((IntKind.u64.wrap ((xorI .u64 s11.1 (IntKind.u64.wrap (x12.toNat : Int))) * 1099511628211)), (IntKind.i64.wrap (s11.2 + 1))))) (some (.inr s11.1))
def hash_Sum_L0 (x8 : List UInt8) (parts : List (List UInt8)) (s7 : Int × Int) (s11 : Int × Int) : Option (Int) := loopX (hash_Sum_L0_s x8 parts s7) KK s11
theorem b_hash_Sum_L0 (d : Nat) {x8 : List UInt8} {parts : List (List UInt8)} {s7 : Int × Int} {s11 : Int × Int} {r : (Int × Int) ⊕ (Int)} (h : hash_Sum_L0_s x8 parts s7 s11 = some r) : RunX (bexec (wcalls atab (d + 0)) KK 32 WB101_1) 0 (inL [3, 8, 9, 10, 15, 16, 17] (st_hash_Sum_L0 x8 parts s7 s11)) (rx_hash_Sum_L0 x8 parts s7 r) := by
  unfold hash_Sum_L0_s at h
  exact run_by nB WB101_1_ok h (.br 18 (fun _ => .bd fun x12 q12 => Ia R_B 19 0 q12 <| Ld R_B 20 false 1 0 q12 (.int .u8 (x12.toNat : Int)) rfl <| E0 [3, 8, 9, 10, 15, 16, 17]) fun _ => E0 [3, 8, 9, 10])
theorem s_hash_Sum_L0 (d : Nat) {x8 : List UInt8} {parts : List (List UInt8)} {s7 : Int × Int} {s11 : Int × Int} {r : Int} (h : hash_Sum_L0 x8 parts s7 s11 = some r) : RunX (bloop (bexec (wcalls atab (d + 0)) KK 32 WB101_1) [3, 8, 9, 10, 15, 16, 17] KK) 0 (inL [3, 8, 9, 10, 15, 16, 17] (st_hash_Sum_L0 x8 parts s7 s11)) (fin_hash_Sum_L0 x8 parts s7 r) :=
  loop_of (st := st_hash_Sum_L0 x8 parts s7) (fin := fin_hash_Sum_L0 x8 parts s7) (step := hash_Sum_L0_s x8 parts s7) (fun e => by (intro h; cases h)) (fun s x h => b_hash_Sum_L0 d h) KK s11 r h

def st_hash_Sum_L1 (parts : List (List UInt8)) (s7 : Int × Int) : List AV × WH := ([(.int .u64 s7.1), (l_S parts), (.int .i64 (parts.length : Int)), (.int .i64 s7.2)], [])
def fin_hash_Sum_L1 (parts : List (List UInt8)) : Int → Ex × Fast × WH := fun e => ((.exit 0), [(3, (.int .u64 e))], [])
abbrev rx_hash_Sum_L1 (parts : List (List UInt8)) := roundX [3, 8, 9, 10] (st_hash_Sum_L1 parts) (fin_hash_Sum_L1 parts)
def hash_Sum_L1_s (parts : List (List UInt8)) (s7 : Int × Int) : Option ((Int × Int) ⊕ (Int)) :=
  cond (decide (s7.2 < (parts.length : Int))) ((getI parts s7.2).bind fun (x8 : List UInt8) => gd (decide (x8.length ≤ 70368744177664)) ((hash_Sum_L0 x8 parts s7 (s7.1, 0)).bind fun (x13 : Int) => some (.inl ((IntKind.u64.wrap ((xorI .u64 x13 256) * 1099511628211)), (IntKind.i64.wrap (s7.2 + 1)))))) (some (.inr s7.1))
def hash_Sum_L1 (parts : List (List UInt8)) (s7 : Int × Int) : Option (Int) := loopX (hash_Sum_L1_s parts) KK s7
theorem b_hash_Sum_L1 (d : Nat) {parts : List (List UInt8)} {s7 : Int × Int} {r : (Int × Int) ⊕ (Int)} (h : hash_Sum_L1_s parts s7 = some r) : RunX (bexec (wcalls atab (d + 0)) KK 32 WB101_0) 0 (inL [3, 8, 9, 10] (st_hash_Sum_L1 parts s7)) (rx_hash_Sum_L1 parts r) := by
  unfold hash_Sum_L1_s at h
  exact run_by nB WB101_0_ok h (.br 11 (fun _ => .bd fun x8 q8 => Ix R_S 12 q8 <| .gd fun q9 => .ob (of_decide_eq_true q9 : x8.length ≤ 70368744177664) <| .bd fun x13 q13 => Lp [none, none, none, none, none, none, none] [] [] (s_hash_Sum_L0 (d + 0) q13) <| E0 [3, 8, 9, 10]) fun _ => E0 [3])
theorem s_hash_Sum_L1 (d : Nat) {parts : List (List UInt8)} {s7 : Int × Int} {r : Int} (h : hash_Sum_L1 parts s7 = some r) : RunX (bloop (bexec (wcalls atab (d + 0)) KK 32 WB101_0) [3, 8, 9, 10] KK) 0 (inL [3, 8, 9, 10] (st_hash_Sum_L1 parts s7)) (fin_hash_Sum_L1 parts r) :=
  loop_of (st := st_hash_Sum_L1 parts) (fin := fin_hash_Sum_L1 parts) (step := hash_Sum_L1_s parts) (fun e => by (intro h; cases h)) (fun s x h => b_hash_Sum_L1 d h) KK s7 r h

def hash_Sum (parts : List (List UInt8)) : Option (Int) :=
  (hash_Sum_L1 parts (14695981039346656037, 0)).bind fun (x14 : Int) => some x14
def out_hash_Sum (parts : List (List UInt8)) (r : Int) : AV × WH := ((.int .u64 r), [])

theorem s_hash_Sum (d : Nat) {parts : List (List UInt8)} {r : Int} (h : hash_Sum parts = some r) : Spec (wcalls atab (d + 1)) 101 [(l_S parts)] [] (out_hash_Sum parts r).1 (out_hash_Sum parts r).2 := by
  unfold hash_Sum at h
  exact spec_by nB AF101 h (.bd fun x14 q14 => Lp [none, none, none, none] [] [] (s_hash_Sum_L1 (d + 0) q14) <| Fn Fo [] none)

end Go.Proofs.Ytkedeiklmpkgkaa
