/- Pick, Shard. -/
import Derived.Test.YteibgagdnidojaaZt1
set_option linter.unusedVariables false
set_option linter.unusedSimpArgs false
namespace Go.Proofs.Yteibgagdnidojaa

theorem pick_spec {G : Sums} {T : FuncId → Option AFunc} {K d : Nat} (g26 : G 26 = none) (h26 : T 26 = some F26) (M : Heap) (x m : Int) (hm : 0 < m) (hm2 : m ≤ 4611686018427387904) :
    bcall G T K (d + 1) 26 [.int .i64 x, .int .i64 m] M = some (.int .i64 (x % m), M) := by
  have hne : m ≠ 0 := by omega
  have h1 : x.tmod m = x % m ∨ (x.tmod m < 0 ∧ x.tmod m + m = x % m) := by
    rcases Int.le_total 0 x with hx | hx
    · left
      exact Int.tmod_eq_emod_of_nonneg hx
    · rw [Int.tmod_eq_emod]
      have hb := Int.emod_lt_of_pos x hm
      have hb0 := Int.emod_nonneg x hne
      split
      · left; omega
      · right
        have : (m.natAbs : Int) = m := by omega
        omega
  have hb := Int.emod_lt_of_pos x hm
  have hb0 := Int.emod_nonneg x hne
  rcases h1 with h1 | ⟨h1, h2⟩
  · have hn : ¬ (x % m < 0) := by omega
    simp [bcall, g26, h26, bbody, F26, start, List.replicate, List.replicate_succ, bexec_seq, bexec_reg, bops_cons, bops_nil, look_cons, bput_some, AOp.sub, POp.sub, AX.sub, aop, aP, aBin, aI_rem _ _ _ hne, aI_lss, aI_add, AX.ev, bexec, bexec_block, bResults, bResL, bRes, h1, hn]
  · have hw : IntKind.i64.wrap (x % m) = x % m := wrap_i64 (by omega) (by omega)
    simp [bcall, g26, h26, bbody, F26, start, List.replicate, List.replicate_succ, bexec_seq, bexec_reg, bops_cons, bops_nil, look_cons, bput_some, AOp.sub, POp.sub, AX.sub, aop, aP, aBin, aI_rem _ _ _ hne, aI_lss, aI_add, AX.ev, bexec, bexec_block, bResults, bResL, bRes, h1, h2, hw]

theorem wrap_u64_range (n : Int) : 0 ≤ IntKind.u64.wrap n ∧ IntKind.u64.wrap n ≤ 18446744073709551615 := by
  simp [IntKind.wrap, IntKind.signed, IntKind.bits]
  omega

theorem sumParts_range : ∀ (l : List (List UInt8)) (h : Int), 0 ≤ h → h ≤ 18446744073709551615 → 0 ≤ sumParts h l ∧ sumParts h l ≤ 18446744073709551615
  | [], h, h1, h2 => ⟨h1, h2⟩
  | s :: l, h, h1, h2 => by
    have := wrap_u64_range (ixor .u64 (sumBytes h s) 256 * 1099511628211)
    exact sumParts_range l (fstep (sumBytes h s) 256) this.1 this.2

def sumOf (l : List (List UInt8)) : Int := sumParts 14695981039346656037 l
theorem sumOf_range (l : List (List UInt8)) : 0 ≤ sumOf l ∧ sumOf l ≤ 18446744073709551615 := sumParts_range l _ (by omega) (by omega)

theorem shard_spec {G : Sums} {T : FuncId → Option AFunc} {K d : Nat} (g24 : G 24 = none) (h24 : T 24 = some F24) (g25 : G 25 = none) (h25 : T 25 = some F25) (hK : 1048577 < K) {M : Heap} (hwf : M.Wf) (s : List UInt8) (hs : s.length ≤ 1048576) (n : Int) (hn : 1 ≤ n) (hn2 : n ≤ 9223372036854775807) :
    ∃ M', bcall G T K (d + 2) 25 [.str s, .int .i64 n] M = some (.int .i64 (sumOf [s] % n), M') ∧ Ext M M' := by
  have hx := Ext.push hwf (.cells [.str s] false false)
  obtain ⟨M2, e1, e2⟩ := sum_spec (G := G) (T := T) (K := K) (d := d) g24 h24 hK hx.wf (a := .slice (some (M.next, 0)) 1 1 1 true) (parts := [s])
    ⟨some (M.next, 0), 1, 1, true, rfl, fun _ => ⟨rfl, M.next, 0, [.str s], false, false, rfl, push_new _ _, fun j t ht => by cases j with | zero => (simp at ht; subst ht; simp) | succ j => simp at ht⟩⟩ (by simp) (by simpa using hs)
  have hlt : ¬ (n < 1) := by omega
  have hw : IntKind.u64.wrap n = n := wrap_u64 (by omega) (by omega)
  have hr := sumOf_range [s]
  have hne : n ≠ 0 := by omega
  have hm : (sumOf [s]).tmod n = sumOf [s] % n := Int.tmod_eq_emod_of_nonneg hr.1
  have hw2 : IntKind.i64.wrap (sumOf [s] % n) = sumOf [s] % n := by
    have := Int.emod_lt_of_pos (sumOf [s]) (show 0 < n by omega)
    have := Int.emod_nonneg (sumOf [s]) hne
    exact wrap_i64 (by omega) (by omega)
  have e3 : bcall G T K (d + 1) 24 [.slice (some (M.next, 0)) 1 1 1 true] (M.push (.cells [.str s] false false)) = some (.int .u64 (sumOf [s]), M2) := e1
  refine ⟨M2, ?_, hx.trans e2⟩
  rw [show d + 2 = (d + 1) + 1 from rfl, bcall]
  simp [g25, h25, bbody, F25, start, List.replicate, List.replicate_succ, bexec_seq, bexec_reg, bops_cons, bops_nil, look_cons, bput_some, AOp.sub, POp.sub, KOp.sub, NOp.sub, AX.sub, aop, aP, aK, aN, aCall, reps, aFill, AV.cells?, Mk.val, aBin, aI_rem _ _ _ hne, aI_lss, aI_add, AX.ev, bexec, bexec_block, bResults, bResL, bRes, hlt, hw, e3, hm, hw2]

end Go.Proofs.Yteibgagdnidojaa
