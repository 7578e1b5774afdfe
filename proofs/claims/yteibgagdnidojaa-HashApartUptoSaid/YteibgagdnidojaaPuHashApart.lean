/- HashApart, in V. -/
import Derived.Test.YteibgagdnidojaaSpHash
import Derived.Test.YteibgagdnidojaaAm33
set_option linter.all false
namespace Go.Proofs.Yteibgagdnidojaa.hashApart

def bstep (h c : BitVec 64) : BitVec 64 := (h ^^^ c) * 1099511628211#64

theorem fstep_b (h c : Int) : fstep h c = (bstep (BitVec.ofInt 64 h) (BitVec.ofInt 64 c)).toNat := by
  have h1 : ∀ v : BitVec 64, IntKind.u64.wrap (v.toNat : Int) = v.toNat := by
    intro v
    have := v.isLt
    rw [wrap_u64] <;> omega
  have h2 : ixor .u64 h c = ((BitVec.ofInt 64 h ^^^ BitVec.ofInt 64 c).toNat : Int) := by
    unfold ixor
    exact h1 _
  unfold fstep bstep
  rw [h2, BitVec.toNat_mul]
  generalize (BitVec.ofInt 64 h ^^^ BitVec.ofInt 64 c).toNat = m
  simp [IntKind.wrap, IntKind.signed, IntKind.bits]

theorem bstep_inj {h h' c c' : BitVec 64} (e : bstep h c = bstep h' c') : h ^^^ c = h' ^^^ c' := by
  unfold bstep at e
  have := congrArg (· * 14886173955864302971#64) e
  simp only [BitVec.mul_assoc] at this
  have hp : 1099511628211#64 * 14886173955864302971#64 = 1#64 := by decide
  rw [hp, BitVec.mul_one, BitVec.mul_one] at this
  exact this

theorem xor_cancel {h h' c : BitVec 64} (e : h ^^^ c = h' ^^^ c) : h = h' := by
  have := congrArg (· ^^^ c) e
  simp only [BitVec.xor_assoc, BitVec.xor_self, BitVec.xor_zero] at this
  exact this

theorem toNat_inj {v w : BitVec 64} (e : (v.toNat : Int) = w.toNat) : v = w := BitVec.eq_of_toNat_eq (by omega)

theorem ofInt_inj {h h' : Int} (h1 : 0 ≤ h ∧ h < 18446744073709551616) (h2 : 0 ≤ h' ∧ h' < 18446744073709551616) (e : BitVec.ofInt 64 h = BitVec.ofInt 64 h') : h = h' := by
  have := congrArg BitVec.toNat e
  simp only [BitVec.toNat_ofInt] at this
  omega

theorem fstep_left {h h' c : Int} (h1 : 0 ≤ h ∧ h < 18446744073709551616) (h2 : 0 ≤ h' ∧ h' < 18446744073709551616) (e : fstep h c = fstep h' c) : h = h' := by
  rw [fstep_b, fstep_b] at e
  exact ofInt_inj h1 h2 (xor_cancel (bstep_inj (toNat_inj e)))

theorem fstep_right {h c c' : Int} (h1 : 0 ≤ c ∧ c < 18446744073709551616) (h2 : 0 ≤ c' ∧ c' < 18446744073709551616) (e : fstep h c = fstep h c') : c = c' := by
  rw [fstep_b, fstep_b] at e
  have := bstep_inj (toNat_inj e)
  rw [BitVec.xor_comm, BitVec.xor_comm (BitVec.ofInt 64 h)] at this
  exact ofInt_inj h1 h2 (xor_cancel this)

theorem sumBytes_left (s : List UInt8) : ∀ {h h' : Int}, (0 ≤ h ∧ h < 18446744073709551616) → (0 ≤ h' ∧ h' < 18446744073709551616) → sumBytes h s = sumBytes h' s → h = h' := by
  induction s with
  | nil => intro h h' _ _ e; exact e
  | cons c s ih =>
    intro h h' h1 h2 e
    exact fstep_left h1 h2 (ih (fstep_range _ _) (fstep_range _ _) e)

theorem apart (a b : List UInt8) (x y : UInt8) : (sumOf [a ++ [x] ++ b] = sumOf [a ++ [y] ++ b]) ↔ x = y := by
  refine ⟨fun e => ?_, fun e => by rw [e]⟩
  have r : ∀ (s : List UInt8), 0 ≤ sumBytes 14695981039346656037 s ∧ sumBytes 14695981039346656037 s < 18446744073709551616 := fun s => sumBytes_range s _ (by omega) (by omega)
  have e1 : fstep (sumBytes 14695981039346656037 (a ++ [x] ++ b)) 256 = fstep (sumBytes 14695981039346656037 (a ++ [y] ++ b)) 256 := e
  have e2 := fstep_left (r _) (r _) e1
  have e3 : ∀ z : UInt8, sumBytes 14695981039346656037 (a ++ [z] ++ b) = sumBytes (fstep (sumBytes 14695981039346656037 a) z.toNat) b := by
    intro z
    simp [sumBytes, List.foldl_append]
  rw [e3, e3] at e2
  have e4 := sumBytes_left b (fstep_range _ _) (fstep_range _ _) e2
  have hx := x.toNat_lt
  have hy := y.toNat_lt
  have e5 := fstep_right ⟨by omega, by omega⟩ ⟨by omega, by omega⟩ e4
  exact UInt8.toNat_inj.1 (by omega)

set_option maxRecDepth 20000 in
set_option maxHeartbeats 8000000 in
theorem pure : VLaw (fun xs => vcall 23 vtab KK 30 fr0 5 xs Heap.empty) [.str, .str, .int .u8, .int .u8, .int .i64] 1048576 := by
  intro ds hare hb
  obtain ⟨d1, r1, rfl, i1, hare⟩ := are_cons hare
  obtain ⟨d2, r2, rfl, i2, hare⟩ := are_cons hare
  obtain ⟨d3, r3, rfl, i3, hare⟩ := are_cons hare
  obtain ⟨d4, r4, rfl, i4, hare⟩ := are_cons hare
  obtain ⟨d5, r5, rfl, i5, hare⟩ := are_cons hare
  obtain rfl := are_nil hare
  obtain ⟨a, rfl⟩ := i1
  obtain ⟨b, rfl⟩ := i2
  obtain ⟨x, rfl⟩ := is_byte i3
  obtain ⟨y, rfl⟩ := is_byte i4
  obtain ⟨n, rfl, hn1, hn2⟩ := i5
  simp only [D.bulks, D.bulk] at hb
  have hk : isKn 23 = true := rfl
  have hK : 1099511627776 < KK := by decide
  have hn1' : -9223372036854775808 ≤ n := hn1
  have hn2' : n ≤ 9223372036854775807 := hn2
  have m1 := Int.emod_nonneg n (show (100 : Int) ≠ 0 by omega)
  have m2 := Int.emod_lt_of_pos n (show (0 : Int) < 100 by omega)
  have p1 := fun H hH => pick_spec (K := KK) (d := 28) hk { mark := 0, tidy := [] } H hH n 100 (by omega) ⟨hn1', hn2'⟩ (by omega)
  have hw : IntKind.i64.wrap (1 + n % 100) = 1 + n % 100 := by rw [wrap_i64] <;> omega
  have s1 := fun H hH v hv => sum_spec (K := KK) (d := 28) hk hK { mark := 0, tidy := [] } H hH [a ++ [x] ++ b] v hv (by simp) (by simp; omega)
  have s2 := fun H hH v hv => sum_spec (K := KK) (d := 28) hk hK { mark := 0, tidy := [] } H hH [a ++ [y] ++ b] v hv (by simp) (by simp; omega)
  have s3 := fun H hH => shard_spec (K := KK) (d := 27) hk hK { mark := 0, tidy := [] } H hH (a ++ b) (1 + n % 100) (by simp; omega) (by omega)
  have kn := fun H => vcall_kn (kn := 23) (K := KK) (d := 28) (fr := { mark := 0, tidy := [] }) (H := H)
  have l1 : a.length + 1 ≤ 4611686018427387904 := by omega
  have l2 : a.length + 1 + b.length ≤ 4611686018427387904 := by omega
  have l3 : a.length + b.length ≤ 4611686018427387904 := by omega
  have hb1 : toBytes [.int .u8 x.toNat] = some [x] := toBytes_map [x]
  have hb2 : toBytes [.int .u8 y.toNat] = some [y] := toBytes_map [y]
  have hap := apart a b x y
  have hsh : 0 ≤ shardOf (a ++ b) (1 + n % 100) ∧ shardOf (a ++ b) (1 + n % 100) < 1 + n % 100 := by
    unfold shardOf
    rw [if_neg (by omega)]
    exact ⟨Int.emod_nonneg _ (by omega), Int.emod_lt_of_pos _ (by omega)⟩
  simp only [Nat.reduceAdd] at p1 s1 s2 s3 kn
  have t1 := fun H hH b c ex hb => s1 H hH _ (.own b c ex false false hb)
  have t2 := fun H hH b c ex hb => s2 H hH _ (.own b c ex false false hb)
  refine ⟨Heap.empty, ?_⟩
  simp only [encArgs, encArg, encS, List.headD]
  rw [vcall_bare hk rfl rfl rfl]
  simp only [List.length_singleton, List.map_cons, List.map_nil, List.append_assoc, List.singleton_append] at t1 t2 hap s3
  by_cases hxy : x = y
  · subst hxy
    simp (maxDischargeDepth := 20) [VF5, vst_some, vgd_true, vgd_false, vgo_nil, vgo_cons, vgo_guard, bwanted_some, vop_p, vop_l, vop_k, vop_n, vnorm_some, vseqc_normal, vseqc_exit, vseqc_ret, vcondc_true, vcondc_false, vexec_dreg, vdgo_nil, vdgo_p, vdgo_l, vdgo_k, vdgo_n, vdgo_gp, vdgo_gl, vdgo_gn, vdp_some, vdl_some, vdk_some, vdn_some, vdw_true, vdw_false, room_zero, room_put, get_room, next_room, get_hide, hide_zero, vexec_skip, vexec_exit, vexec_ret, vexec_reg, vexec_seq, vexec_cond, vexec_block, vexec_loop, blockO_exit, blockO_normal, blockO_ret, vfin_some, vend_normal, vend_ret, vbody_eq, outO_normal, outO_exit, outO_ret, vround_eq, vkeep_false, bkeep_cons, bkeep_nil, bput_some, bput_none, look_cons, look_nil, AOp.sub, POp.sub, LOp.sub, KOp.sub, NOp.sub, AX.sub, AX.subO, AX.ev, vP, vL, vK, vN, vElems, vElemSize, aP, aL, aK, aN, cB_add, cB_sub, cB_mul, cB_eql, cB_neq, cB_lss, cB_leq, cB_gtr, cB_geq, cB_xor, cB_and, cB_or, cS_eql, cS_neq, cS_lss, cS_leq, cS_gtr, cS_geq, aLoad, aBytesStr, aElems, aElemSize, Mk.val, next_push, next_put, get_push, get_put, Heap.read, List.replicate, List.replicate_succ, start, vRes, vResL, vResults, List.headD, cut_zero, vexit, fz, fzL, fzTidy, reach, grow, idsOfL, idsOf, cellsOf, cut_put_lt, cut_push, put_put, okStore, aStore, ptrOk, AV.cells?, AV.isCell, Heap.write, aFill, aPart, aEqKs, aEqK, aUn, next_empty, loadOk, ofList, isList, bornL, bornX, bornOf, bornPut, bornP, known, knownL, AV.same, List.all_cons, List.all_nil, List.drop_zero, List.isEmpty_cons, List.isEmpty_nil, reps, p1, hw, t1, t2, s3, kn, ok_push, ok_put, ok_empty, hb1, hb2, cS_add, l1, l2, l3, hsh.1, hsh.2]
  · have h1 : ¬ (sumOf [a ++ x :: b] = sumOf [a ++ y :: b]) := fun e => hxy (hap.1 e)
    have h2 : ¬ ((x.toNat : Int) = y.toNat) := fun e => hxy (UInt8.toNat_inj.1 (by omega))
    simp (maxDischargeDepth := 20) [VF5, vst_some, vgd_true, vgd_false, vgo_nil, vgo_cons, vgo_guard, bwanted_some, vop_p, vop_l, vop_k, vop_n, vnorm_some, vseqc_normal, vseqc_exit, vseqc_ret, vcondc_true, vcondc_false, vexec_dreg, vdgo_nil, vdgo_p, vdgo_l, vdgo_k, vdgo_n, vdgo_gp, vdgo_gl, vdgo_gn, vdp_some, vdl_some, vdk_some, vdn_some, vdw_true, vdw_false, room_zero, room_put, get_room, next_room, get_hide, hide_zero, vexec_skip, vexec_exit, vexec_ret, vexec_reg, vexec_seq, vexec_cond, vexec_block, vexec_loop, blockO_exit, blockO_normal, blockO_ret, vfin_some, vend_normal, vend_ret, vbody_eq, outO_normal, outO_exit, outO_ret, vround_eq, vkeep_false, bkeep_cons, bkeep_nil, bput_some, bput_none, look_cons, look_nil, AOp.sub, POp.sub, LOp.sub, KOp.sub, NOp.sub, AX.sub, AX.subO, AX.ev, vP, vL, vK, vN, vElems, vElemSize, aP, aL, aK, aN, cB_add, cB_sub, cB_mul, cB_eql, cB_neq, cB_lss, cB_leq, cB_gtr, cB_geq, cB_xor, cB_and, cB_or, cS_eql, cS_neq, cS_lss, cS_leq, cS_gtr, cS_geq, aLoad, aBytesStr, aElems, aElemSize, Mk.val, next_push, next_put, get_push, get_put, Heap.read, List.replicate, List.replicate_succ, start, vRes, vResL, vResults, List.headD, cut_zero, vexit, fz, fzL, fzTidy, reach, grow, idsOfL, idsOf, cellsOf, cut_put_lt, cut_push, put_put, okStore, aStore, ptrOk, AV.cells?, AV.isCell, Heap.write, aFill, aPart, aEqKs, aEqK, aUn, next_empty, loadOk, ofList, isList, bornL, bornX, bornOf, bornPut, bornP, known, knownL, AV.same, List.all_cons, List.all_nil, List.drop_zero, List.isEmpty_cons, List.isEmpty_nil, reps, p1, hw, t1, t2, s3, kn, ok_push, ok_put, ok_empty, hb1, hb2, cS_add, l1, l2, l3, hsh.1, hsh.2, h1, h2]
end Go.Proofs.Yteibgagdnidojaa.hashApart
