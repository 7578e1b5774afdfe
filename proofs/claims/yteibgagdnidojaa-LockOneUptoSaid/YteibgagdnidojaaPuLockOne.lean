/- LockOne, in V. -/
import Derived.Test.YteibgagdnidojaaPuLockTells
set_option linter.all false
namespace Go.Proofs.Yteibgagdnidojaa.lockOne

set_option maxRecDepth 20000 in
set_option maxHeartbeats 8000000 in
theorem pure : VLaw (fun xs => vcall 33 vtab KK 30 fr0 9 xs Heap.empty) [.agg [.int .i64, .int .i64, .int .i64, .int .i64, .int .i64, .int .i64], .agg [.int .i64, .int .i64, .int .i64, .int .i64, .int .i64, .int .i64], .int .i64] 1048576 := by
  intro ds hare hb
  obtain ⟨d1, r1, rfl, i1, hare⟩ := are_cons hare
  obtain ⟨d2, r2, rfl, i2, hare⟩ := are_cons hare
  obtain ⟨d3, r3, rfl, i3, hare⟩ := are_cons hare
  obtain rfl := are_nil hare
  obtain ⟨a, rfl, ha⟩ := is_rawL i1
  obtain ⟨b, rfl, hb'⟩ := is_rawL i2
  obtain ⟨now, rfl, hn⟩ := i3
  have hk : isKn 33 = true := rfl
  obtain ⟨aw, ar, ap, an, as_, at_⟩ := a
  obtain ⟨bw, br, bp, bn, bs, bt⟩ := b
  obtain ⟨a1, a2, a3, a4, a5, a6⟩ := ha
  obtain ⟨b1, b2, b3, b4, b5, b6⟩ := hb'
  simp only [i64] at a1 a2 a3 a4 a5 a6 b1 b2 b3 b4 b5 b6
  have m1 := Int.emod_nonneg br (show (2 : Int) ≠ 0 by omega)
  have m2 := Int.emod_lt_of_pos br (show (0 : Int) < 2 by omega)
  have hw : IntKind.i64.wrap (1 + br % 2) = 1 + br % 2 := by rw [wrap_i64] <;> omega
  have p1 := fun H hH => pick_spec (K := KK) (d := 28) hk { mark := 0, tidy := [] } H hH br 2 (by omega) b2 (by omega)
  have h1 := fun H hH hb => hold_spec (K := KK) (d := 28) hk { mark := 0, tidy := [] } H hH 2 .zero false hb (.inl (Nat.zero_le _)) 1 ap an as_ at_
  have h2 := fun H hH hb => hold_spec (K := KK) (d := 28) hk { mark := 0, tidy := [] } H hH 2 ⟨1, ap, an, as_, at_⟩ false hb (.inl (Nat.zero_le _)) (1 + br % 2) bp bn bs bt
  have s1 := fun H hH hb => is_spec (K := KK) (d := 28) hk { mark := 0, tidy := [] } H hH 2 ⟨1, ap, an, as_, at_⟩ false hb (.inl (Nat.zero_le _)) 1 ap an
  have s2 := fun H hH hb => is_spec (K := KK) (d := 28) hk { mark := 0, tidy := [] } H hH 2 ⟨1, ap, an, as_, at_⟩ false hb (.inl (Nat.zero_le _)) 1 bp bn
  have e1 := fun H hH hb => expire_spec (K := KK) (d := 27) hk { mark := 0, tidy := [] } H hH 3 ⟨1, ap, an, as_, at_⟩ false hb (.inl (Nat.zero_le _)) now
  have kn := fun H => vcall_kn (kn := 33) (K := KK) (d := 28) (fr := { mark := 0, tidy := [] }) (H := H)
  simp only [Nat.reduceAdd] at p1 h1 h2 s1 s2 e1 kn
  simp [lkc, Lk.hold, Lk.free, Lk.zero] at h1
  simp [lkc, Lk.hold, Lk.free] at h2
  simp [lkc, Lk.is] at s1
  refine ⟨Heap.empty, ?_⟩
  simp only [encArgs, encArg, encS, encSs, rawd, List.headD, shSize, shSizes, Nat.reduceAdd]
  rw [vcall_bare hk rfl rfl rfl]
  by_cases c1 : at_ < now
  · simp [lkc, Lk.expire, Lk.over, c1, Lk.zero] at e1
    by_cases c2 : ap = bp
    · subst c2
      by_cases c3 : an = bn
      · subst c3
        simp [lkc, Lk.is] at s2
        simp (maxDischargeDepth := 20) [VF9, vst_some, vgd_true, vgd_false, vgo_nil, vgo_cons, vgo_guard, bwanted_some, vop_p, vop_l, vop_k, vop_n, vnorm_some, vseqc_normal, vseqc_exit, vseqc_ret, vcondc_true, vcondc_false, vexec_dreg, vdgo_nil, vdgo_p, vdgo_l, vdgo_k, vdgo_n, vdgo_gp, vdgo_gl, vdgo_gn, vdp_some, vdl_some, vdk_some, vdn_some, vdw_true, vdw_false, room_zero, room_put, get_room, next_room, get_hide, hide_zero, vexec_skip, vexec_exit, vexec_ret, vexec_reg, vexec_seq, vexec_cond, vexec_block, vexec_loop, blockO_exit, blockO_normal, blockO_ret, vfin_some, vend_normal, vend_ret, vbody_eq, outO_normal, outO_exit, outO_ret, vround_eq, vkeep_false, bkeep_cons, bkeep_nil, bput_some, bput_none, look_cons, look_nil, AOp.sub, POp.sub, LOp.sub, KOp.sub, NOp.sub, AX.sub, AX.subO, AX.ev, vP, vL, vK, vN, vElems, vElemSize, aP, aL, aK, aN, cB_add, cB_sub, cB_mul, cB_eql, cB_neq, cB_lss, cB_leq, cB_gtr, cB_geq, cB_xor, cB_and, cB_or, cS_eql, cS_neq, cS_lss, cS_leq, cS_gtr, cS_geq, aLoad, aBytesStr, aElems, aElemSize, Mk.val, next_push, next_put, get_push, get_put, Heap.read, List.replicate, List.replicate_succ, start, vRes, vResL, vResults, List.headD, cut_zero, vexit, fz, fzL, fzTidy, reach, grow, idsOfL, idsOf, cellsOf, cut_put_lt, cut_push, put_put, okStore, aStore, ptrOk, AV.cells?, AV.isCell, Heap.write, aFill, aPart, aEqKs, aEqK, aUn, next_empty, loadOk, ofList, isList, bornL, bornX, bornOf, bornPut, bornP, known, knownL, AV.same, List.all_cons, List.all_nil, List.drop_zero, List.isEmpty_cons, List.isEmpty_nil, p1, hw, h1, h2, s1, s2, e1, kn, ok_push, ok_put, ok_empty, c1]
      · simp [lkc, Lk.is, c3] at s2
        simp (maxDischargeDepth := 20) [VF9, vst_some, vgd_true, vgd_false, vgo_nil, vgo_cons, vgo_guard, bwanted_some, vop_p, vop_l, vop_k, vop_n, vnorm_some, vseqc_normal, vseqc_exit, vseqc_ret, vcondc_true, vcondc_false, vexec_dreg, vdgo_nil, vdgo_p, vdgo_l, vdgo_k, vdgo_n, vdgo_gp, vdgo_gl, vdgo_gn, vdp_some, vdl_some, vdk_some, vdn_some, vdw_true, vdw_false, room_zero, room_put, get_room, next_room, get_hide, hide_zero, vexec_skip, vexec_exit, vexec_ret, vexec_reg, vexec_seq, vexec_cond, vexec_block, vexec_loop, blockO_exit, blockO_normal, blockO_ret, vfin_some, vend_normal, vend_ret, vbody_eq, outO_normal, outO_exit, outO_ret, vround_eq, vkeep_false, bkeep_cons, bkeep_nil, bput_some, bput_none, look_cons, look_nil, AOp.sub, POp.sub, LOp.sub, KOp.sub, NOp.sub, AX.sub, AX.subO, AX.ev, vP, vL, vK, vN, vElems, vElemSize, aP, aL, aK, aN, cB_add, cB_sub, cB_mul, cB_eql, cB_neq, cB_lss, cB_leq, cB_gtr, cB_geq, cB_xor, cB_and, cB_or, cS_eql, cS_neq, cS_lss, cS_leq, cS_gtr, cS_geq, aLoad, aBytesStr, aElems, aElemSize, Mk.val, next_push, next_put, get_push, get_put, Heap.read, List.replicate, List.replicate_succ, start, vRes, vResL, vResults, List.headD, cut_zero, vexit, fz, fzL, fzTidy, reach, grow, idsOfL, idsOf, cellsOf, cut_put_lt, cut_push, put_put, okStore, aStore, ptrOk, AV.cells?, AV.isCell, Heap.write, aFill, aPart, aEqKs, aEqK, aUn, next_empty, loadOk, ofList, isList, bornL, bornX, bornOf, bornPut, bornP, known, knownL, AV.same, List.all_cons, List.all_nil, List.drop_zero, List.isEmpty_cons, List.isEmpty_nil, p1, hw, h1, h2, s1, s2, e1, kn, ok_push, ok_put, ok_empty, c1, c3]
    · simp [lkc, Lk.is, c2] at s2
      simp (maxDischargeDepth := 20) [VF9, vst_some, vgd_true, vgd_false, vgo_nil, vgo_cons, vgo_guard, bwanted_some, vop_p, vop_l, vop_k, vop_n, vnorm_some, vseqc_normal, vseqc_exit, vseqc_ret, vcondc_true, vcondc_false, vexec_dreg, vdgo_nil, vdgo_p, vdgo_l, vdgo_k, vdgo_n, vdgo_gp, vdgo_gl, vdgo_gn, vdp_some, vdl_some, vdk_some, vdn_some, vdw_true, vdw_false, room_zero, room_put, get_room, next_room, get_hide, hide_zero, vexec_skip, vexec_exit, vexec_ret, vexec_reg, vexec_seq, vexec_cond, vexec_block, vexec_loop, blockO_exit, blockO_normal, blockO_ret, vfin_some, vend_normal, vend_ret, vbody_eq, outO_normal, outO_exit, outO_ret, vround_eq, vkeep_false, bkeep_cons, bkeep_nil, bput_some, bput_none, look_cons, look_nil, AOp.sub, POp.sub, LOp.sub, KOp.sub, NOp.sub, AX.sub, AX.subO, AX.ev, vP, vL, vK, vN, vElems, vElemSize, aP, aL, aK, aN, cB_add, cB_sub, cB_mul, cB_eql, cB_neq, cB_lss, cB_leq, cB_gtr, cB_geq, cB_xor, cB_and, cB_or, cS_eql, cS_neq, cS_lss, cS_leq, cS_gtr, cS_geq, aLoad, aBytesStr, aElems, aElemSize, Mk.val, next_push, next_put, get_push, get_put, Heap.read, List.replicate, List.replicate_succ, start, vRes, vResL, vResults, List.headD, cut_zero, vexit, fz, fzL, fzTidy, reach, grow, idsOfL, idsOf, cellsOf, cut_put_lt, cut_push, put_put, okStore, aStore, ptrOk, AV.cells?, AV.isCell, Heap.write, aFill, aPart, aEqKs, aEqK, aUn, next_empty, loadOk, ofList, isList, bornL, bornX, bornOf, bornPut, bornP, known, knownL, AV.same, List.all_cons, List.all_nil, List.drop_zero, List.isEmpty_cons, List.isEmpty_nil, p1, hw, h1, h2, s1, s2, e1, kn, ok_push, ok_put, ok_empty, c1, c2]
  · simp [lkc, Lk.expire, Lk.over, c1, Lk.zero] at e1
    by_cases c2 : ap = bp
    · subst c2
      by_cases c3 : an = bn
      · subst c3
        simp [lkc, Lk.is] at s2
        simp (maxDischargeDepth := 20) [VF9, vst_some, vgd_true, vgd_false, vgo_nil, vgo_cons, vgo_guard, bwanted_some, vop_p, vop_l, vop_k, vop_n, vnorm_some, vseqc_normal, vseqc_exit, vseqc_ret, vcondc_true, vcondc_false, vexec_dreg, vdgo_nil, vdgo_p, vdgo_l, vdgo_k, vdgo_n, vdgo_gp, vdgo_gl, vdgo_gn, vdp_some, vdl_some, vdk_some, vdn_some, vdw_true, vdw_false, room_zero, room_put, get_room, next_room, get_hide, hide_zero, vexec_skip, vexec_exit, vexec_ret, vexec_reg, vexec_seq, vexec_cond, vexec_block, vexec_loop, blockO_exit, blockO_normal, blockO_ret, vfin_some, vend_normal, vend_ret, vbody_eq, outO_normal, outO_exit, outO_ret, vround_eq, vkeep_false, bkeep_cons, bkeep_nil, bput_some, bput_none, look_cons, look_nil, AOp.sub, POp.sub, LOp.sub, KOp.sub, NOp.sub, AX.sub, AX.subO, AX.ev, vP, vL, vK, vN, vElems, vElemSize, aP, aL, aK, aN, cB_add, cB_sub, cB_mul, cB_eql, cB_neq, cB_lss, cB_leq, cB_gtr, cB_geq, cB_xor, cB_and, cB_or, cS_eql, cS_neq, cS_lss, cS_leq, cS_gtr, cS_geq, aLoad, aBytesStr, aElems, aElemSize, Mk.val, next_push, next_put, get_push, get_put, Heap.read, List.replicate, List.replicate_succ, start, vRes, vResL, vResults, List.headD, cut_zero, vexit, fz, fzL, fzTidy, reach, grow, idsOfL, idsOf, cellsOf, cut_put_lt, cut_push, put_put, okStore, aStore, ptrOk, AV.cells?, AV.isCell, Heap.write, aFill, aPart, aEqKs, aEqK, aUn, next_empty, loadOk, ofList, isList, bornL, bornX, bornOf, bornPut, bornP, known, knownL, AV.same, List.all_cons, List.all_nil, List.drop_zero, List.isEmpty_cons, List.isEmpty_nil, p1, hw, h1, h2, s1, s2, e1, kn, ok_push, ok_put, ok_empty, c1]
      · simp [lkc, Lk.is, c3] at s2
        simp (maxDischargeDepth := 20) [VF9, vst_some, vgd_true, vgd_false, vgo_nil, vgo_cons, vgo_guard, bwanted_some, vop_p, vop_l, vop_k, vop_n, vnorm_some, vseqc_normal, vseqc_exit, vseqc_ret, vcondc_true, vcondc_false, vexec_dreg, vdgo_nil, vdgo_p, vdgo_l, vdgo_k, vdgo_n, vdgo_gp, vdgo_gl, vdgo_gn, vdp_some, vdl_some, vdk_some, vdn_some, vdw_true, vdw_false, room_zero, room_put, get_room, next_room, get_hide, hide_zero, vexec_skip, vexec_exit, vexec_ret, vexec_reg, vexec_seq, vexec_cond, vexec_block, vexec_loop, blockO_exit, blockO_normal, blockO_ret, vfin_some, vend_normal, vend_ret, vbody_eq, outO_normal, outO_exit, outO_ret, vround_eq, vkeep_false, bkeep_cons, bkeep_nil, bput_some, bput_none, look_cons, look_nil, AOp.sub, POp.sub, LOp.sub, KOp.sub, NOp.sub, AX.sub, AX.subO, AX.ev, vP, vL, vK, vN, vElems, vElemSize, aP, aL, aK, aN, cB_add, cB_sub, cB_mul, cB_eql, cB_neq, cB_lss, cB_leq, cB_gtr, cB_geq, cB_xor, cB_and, cB_or, cS_eql, cS_neq, cS_lss, cS_leq, cS_gtr, cS_geq, aLoad, aBytesStr, aElems, aElemSize, Mk.val, next_push, next_put, get_push, get_put, Heap.read, List.replicate, List.replicate_succ, start, vRes, vResL, vResults, List.headD, cut_zero, vexit, fz, fzL, fzTidy, reach, grow, idsOfL, idsOf, cellsOf, cut_put_lt, cut_push, put_put, okStore, aStore, ptrOk, AV.cells?, AV.isCell, Heap.write, aFill, aPart, aEqKs, aEqK, aUn, next_empty, loadOk, ofList, isList, bornL, bornX, bornOf, bornPut, bornP, known, knownL, AV.same, List.all_cons, List.all_nil, List.drop_zero, List.isEmpty_cons, List.isEmpty_nil, p1, hw, h1, h2, s1, s2, e1, kn, ok_push, ok_put, ok_empty, c1, c3]
    · simp [lkc, Lk.is, c2] at s2
      simp (maxDischargeDepth := 20) [VF9, vst_some, vgd_true, vgd_false, vgo_nil, vgo_cons, vgo_guard, bwanted_some, vop_p, vop_l, vop_k, vop_n, vnorm_some, vseqc_normal, vseqc_exit, vseqc_ret, vcondc_true, vcondc_false, vexec_dreg, vdgo_nil, vdgo_p, vdgo_l, vdgo_k, vdgo_n, vdgo_gp, vdgo_gl, vdgo_gn, vdp_some, vdl_some, vdk_some, vdn_some, vdw_true, vdw_false, room_zero, room_put, get_room, next_room, get_hide, hide_zero, vexec_skip, vexec_exit, vexec_ret, vexec_reg, vexec_seq, vexec_cond, vexec_block, vexec_loop, blockO_exit, blockO_normal, blockO_ret, vfin_some, vend_normal, vend_ret, vbody_eq, outO_normal, outO_exit, outO_ret, vround_eq, vkeep_false, bkeep_cons, bkeep_nil, bput_some, bput_none, look_cons, look_nil, AOp.sub, POp.sub, LOp.sub, KOp.sub, NOp.sub, AX.sub, AX.subO, AX.ev, vP, vL, vK, vN, vElems, vElemSize, aP, aL, aK, aN, cB_add, cB_sub, cB_mul, cB_eql, cB_neq, cB_lss, cB_leq, cB_gtr, cB_geq, cB_xor, cB_and, cB_or, cS_eql, cS_neq, cS_lss, cS_leq, cS_gtr, cS_geq, aLoad, aBytesStr, aElems, aElemSize, Mk.val, next_push, next_put, get_push, get_put, Heap.read, List.replicate, List.replicate_succ, start, vRes, vResL, vResults, List.headD, cut_zero, vexit, fz, fzL, fzTidy, reach, grow, idsOfL, idsOf, cellsOf, cut_put_lt, cut_push, put_put, okStore, aStore, ptrOk, AV.cells?, AV.isCell, Heap.write, aFill, aPart, aEqKs, aEqK, aUn, next_empty, loadOk, ofList, isList, bornL, bornX, bornOf, bornPut, bornP, known, knownL, AV.same, List.all_cons, List.all_nil, List.drop_zero, List.isEmpty_cons, List.isEmpty_nil, p1, hw, h1, h2, s1, s2, e1, kn, ok_push, ok_put, ok_empty, c1, c2]

end Go.Proofs.Yteibgagdnidojaa.lockOne
