/- The law HashDivides, of the machine alone. -/
import Derived.Test.YteibgagdnidojaaZt2
set_option linter.unusedVariables false
set_option linter.unusedSimpArgs false
namespace Go.Proofs.Yteibgagdnidojaa.hashDivides

def rows : List (Nat × AFunc) := [(6, F6), (23, F23), (24, F24), (25, F25), (26, F26), (27, F27), (76, F76)]
def table : FuncId → Option AFunc := fun f => (rows.find? fun r => r.1 == f).map fun r => r.2
theorem rows_ok : ∀ r ∈ rows, ∃ h, cFunc Try.prog r.1 h = some r.2 :=
  List.forall_mem_cons.2 ⟨⟨_, F6_is⟩, List.forall_mem_cons.2 ⟨⟨_, F23_is⟩, List.forall_mem_cons.2 ⟨⟨_, F24_is⟩, List.forall_mem_cons.2 ⟨⟨_, F25_is⟩, List.forall_mem_cons.2 ⟨⟨_, F26_is⟩, List.forall_mem_cons.2 ⟨⟨_, F27_is⟩, List.forall_mem_cons.2 ⟨⟨_, F76_is⟩, fun _ h => by cases h⟩⟩⟩⟩⟩⟩⟩
theorem table_ok : ∀ f af, table f = some af → ∃ h, cFunc Try.prog f h = some af := by
  intro f af h
  obtain ⟨r, hr, rfl⟩ := Option.map_eq_some_iff.1 h
  have h1 : r.1 = f := by
    have := List.find?_some hr
    simpa using this
  obtain ⟨h, hh⟩ := rows_ok r (List.mem_of_find?_eq_some hr)
  exact ⟨h, by rw [← h1]; exact hh⟩
theorem known_run : tellsTrue (bcall (fun _ => none) table 100000 40 23 [] Heap.empty) = true := by kernel_rfl
theorem mach_sound : CallsOk Try.prog (bcall (withKnown 23 table) table 2000000 20) := withKnown_sound table_ok known_run _ _

theorem pure : PureLaw (bcall (withKnown 23 table) table 2000000 20 6) [.str, .int .i64, .int .i64] 1048576 := by
  intro ds av M hare hb hro hwf hargs
  obtain ⟨d1, r1, rfl, i1, hare⟩ := are_cons hare
  obtain ⟨d2, r2, rfl, i2, hare⟩ := are_cons hare
  obtain ⟨d3, r3, rfl, i3, hare⟩ := are_cons hare
  obtain rfl := are_nil hare
  obtain ⟨a1, t1, rfl, q1, hargs⟩ := args_cons hargs
  obtain ⟨a2, t2, rfl, q2, hargs⟩ := args_cons hargs
  obtain ⟨a3, t3, rfl, q3, hargs⟩ := args_cons hargs
  obtain rfl := args_nil hargs
  obtain ⟨key, rfl⟩ := i1
  obtain ⟨n, rfl, hn1, hn2⟩ := i2
  obtain ⟨m, rfl, hm1, hm2⟩ := i3
  obtain rfl := arg_str q1
  obtain rfl := arg_int q2
  obtain rfl := arg_int q3
  have hkey : key.length ≤ 1048576 := by
    simp [D.bulks, D.bulk] at hb
    omega
  have g : ∀ f, f ≠ 23 → withKnown 23 table f = none := fun f hf => by simp [withKnown, hf]
  have kn := fun M => known_spec known_run 2000000 18 M
  have p1 := fun M x => pick_spec (G := withKnown 23 table) (T := table) (K := 2000000) (d := 18) (g 26 (by decide)) rfl M x 50 (by omega) (by omega)
  have hn := Int.emod_lt_of_pos n (show (0:Int) < 50 by omega)
  have hn0 := Int.emod_nonneg n (show (50:Int) ≠ 0 by omega)
  have hm := Int.emod_lt_of_pos m (show (0:Int) < 50 by omega)
  have hm0 := Int.emod_nonneg m (show (50:Int) ≠ 0 by omega)
  have w1 : IntKind.i64.wrap (1 + n % 50) = 1 + n % 50 := wrap_i64 (by omega) (by omega)
  have w2 : IntKind.i64.wrap (1 + m % 50) = 1 + m % 50 := wrap_i64 (by omega) (by omega)
  have hp1 : 1 ≤ (1 + n % 50) * (1 + m % 50) := by
    have := Int.mul_le_mul (show (1:Int) ≤ 1 + n % 50 by omega) (show (1:Int) ≤ 1 + m % 50 by omega) (by omega) (by omega)
    omega
  have hp2 : (1 + n % 50) * (1 + m % 50) ≤ 2500 := by
    have := Int.mul_le_mul (show 1 + n % 50 ≤ 50 by omega) (show 1 + m % 50 ≤ 50 by omega) (by omega) (by omega)
    omega
  have w3 : IntKind.i64.wrap ((1 + n % 50) * (1 + m % 50)) = (1 + n % 50) * (1 + m % 50) := wrap_i64 (by omega) (by omega)
  obtain ⟨M1, s1, x1⟩ := shard_spec (G := withKnown 23 table) (T := table) (K := 2000000) (d := 17) (g 24 (by decide)) rfl (g 25 (by decide)) rfl (by omega) hwf key hkey (1 + n % 50) (by omega) (by omega)
  obtain ⟨M2, s2, x2⟩ := shard_spec (G := withKnown 23 table) (T := table) (K := 2000000) (d := 17) (g 24 (by decide)) rfl (g 25 (by decide)) rfl (by omega) x1.wf key hkey ((1 + n % 50) * (1 + m % 50)) (by omega) (by omega)
  have sx := Ext.push x2.wf (.cells [.str key] false false)
  have sl : ∀ X : Heap, SlStr (X.push (.cells [.str key] false false)) (.slice (some (X.next, 0)) 1 1 1 true) [key] := fun X => ⟨some (X.next, 0), 1, 1, true, rfl, fun _ => ⟨rfl, X.next, 0, [.str key], false, false, rfl, push_new _ _, fun j t ht => by cases j with | zero => (simp at ht; subst ht; simp) | succ j => simp at ht⟩⟩
  obtain ⟨M3, s3, x3⟩ := sum_spec (G := withKnown 23 table) (T := table) (K := 2000000) (d := 18) (g 24 (by decide)) rfl (by omega) sx.wf (sl M2) (by simp) (by simpa using hkey)
  have sy := Ext.push x3.wf (.cells [.str key] false false)
  obtain ⟨M4, s4, x4⟩ := sum_spec (G := withKnown 23 table) (T := table) (K := 2000000) (d := 18) (g 24 (by decide)) rfl (by omega) sy.wf (sl M3) (by simp) (by simpa using hkey)
  have hne : 1 + n % 50 ≠ 0 := by omega
  have hr := sumOf_range [key]
  have hmod : (sumOf [key] % ((1 + n % 50) * (1 + m % 50))).tmod (1 + n % 50) = sumOf [key] % (1 + n % 50) := by
    rw [Int.tmod_eq_emod_of_nonneg (Int.emod_nonneg _ (by omega))]
    exact Int.emod_emod_of_dvd _ (Int.dvd_mul_right _ _)
  have e0 : ∀ (C : ACalls), (∀ M x, C 26 [.int .i64 x, .int .i64 50] M = some (.int .i64 (x % 50), M)) → (∀ M, C 23 [] M = some (.bool true, M)) →
      C 25 [.str key, .int .i64 (1 + n % 50)] M = some (.int .i64 (sumOf [key] % (1 + n % 50)), M1) → C 25 [.str key, .int .i64 ((1 + n % 50) * (1 + m % 50))] M1 = some (.int .i64 (sumOf [key] % ((1 + n % 50) * (1 + m % 50))), M2) →
      C 24 [.slice (some (M2.next, 0)) 1 1 1 true] (M2.push (.cells [.str key] false false)) = some (.int .u64 (sumOf [key]), M3) → C 24 [.slice (some (M3.next, 0)) 1 1 1 true] (M3.push (.cells [.str key] false false)) = some (.int .u64 (sumOf [key]), M4) →
      bbody C 2000000 F6 [.str key, .int .i64 n, .int .i64 m] M = some (.bool true, M4) := by
    intro C c1 c2 c3 c4 c5 c6
    simp [bbody, F6, start, List.replicate, List.replicate_succ, bexec_seq, bexec_reg, bops_cons, bops_guard, bwanted, bops_nil, look_cons, bput_some, AOp.sub, POp.sub, KOp.sub, NOp.sub, AX.sub, aop, aP, aK, aN, aCall, reps, aFill, AV.cells?, Mk.val, aBin, aI_rem _ _ _ hne, aI_lss, aI_add, aI_mul, aI_eql, AX.ev, bexec, bexec_block, bResults, bResL, bRes, c1, c2, c3, c4, c5, c6, w1, w2, w3, hmod]
  have e1 : bcall (withKnown 23 table) table 2000000 20 6 [.str key, .int .i64 n, .int .i64 m] M = bbody (bcall (withKnown 23 table) table 2000000 19) 2000000 F6 [.str key, .int .i64 n, .int .i64 m] M := by
    rw [show (20 : Nat) = 19 + 1 from rfl, bcall, g 6 (by decide)]
    rfl
  rw [e1, e0 _ p1 kn s1 s2 s3 s4]
  rfl
end Go.Proofs.Yteibgagdnidojaa.hashDivides
