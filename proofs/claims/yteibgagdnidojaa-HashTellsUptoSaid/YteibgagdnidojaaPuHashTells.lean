/- HashTells, in V. -/
import Derived.Test.YteibgagdnidojaaSpHash
import Derived.Test.YteibgagdnidojaaAm33
set_option linter.all false
set_option linter.unusedSimpArgs false
namespace Go.Proofs.Yteibgagdnidojaa.hashTells

theorem pure : VLaw (fun xs => vcall 23 vtab KK 30 fr0 4 xs Heap.empty) [.list .str, .str, .int .i64] 1048576 := by
  intro ds hare hb
  obtain ⟨d1, r1, rfl, i1, hare⟩ := are_cons hare
  obtain ⟨d2, r2, rfl, i2, hare⟩ := are_cons hare
  obtain ⟨d3, r3, rfl, i3, hare⟩ := are_cons hare
  obtain rfl := are_nil hare
  obtain ⟨l, rfl, hl⟩ := i1
  obtain ⟨parts, rfl⟩ := is_strs hl
  obtain ⟨key, rfl⟩ := i2
  obtain ⟨n, rfl, hn1, hn2⟩ := i3
  simp only [D.bulks, D.bulk] at hb
  have hp := bulk_strs (L := parts) (n := 1048576) (by omega)
  have hk : isKn 23 = true := rfl
  have hK : 1099511627776 < KK := by decide
  have hn1' : -9223372036854775808 ≤ n := hn1
  have hn2' : n ≤ 9223372036854775807 := hn2
  have hO := ok_empty
  have fl : fr0.mark = 0 := rfl
  let fr : Fr := { mark := 0, tidy := [] }
  have e1 : (if 30 < parts.length then parts.take 30 else parts).length ≤ 1099511627776 := by split <;> (try rw [List.length_take]) <;> omega
  have e2 : ∀ s ∈ (if 30 < parts.length then parts.take 30 else parts), s.length ≤ 1099511627776 := by
    intro s hs
    have : s ∈ parts := by split at hs; exact List.mem_of_mem_take hs; exact hs
    have := hp.2 s this
    omega
  have m1 := Int.emod_nonneg n (show (12:Int) ≠ 0 by omega)
  have m2 := Int.emod_lt_of_pos n (show (0:Int) < 12 by omega)
  have s0 := pick_spec (K := KK) (d := 28) hk fr Heap.empty hO n 12 (by omega) ⟨hn1', hn2'⟩ (by omega)
  have s1 := fun v hv => sum_spec (K := KK) (d := 28) hk hK fr Heap.empty hO (if 30 < parts.length then parts.take 30 else parts) v hv e1 e2
  have s2 := fun v hv => rsum_spec (K := KK) (d := 27) hk hK fr Heap.empty hO (if 30 < parts.length then parts.take 30 else parts) v hv e1 e2
  have s3 := shard_spec (K := KK) (d := 27) hk hK fr Heap.empty hO key (n % 12 - 2) (by omega) (by omega)
  have s4 := rshard_spec (K := KK) (d := 26) hk hK fr Heap.empty hO key (n % 12 - 2) (by omega) (by omega)
  have s5 := shard_spec (K := KK) (d := 27) hk hK fr Heap.empty hO key n (by omega) hn2'
  have s6 := rshard_spec (K := KK) (d := 26) hk hK fr Heap.empty hO key n (by omega) hn2'
  have w : IntKind.i64.wrap (n % 12 - 2) = n % 12 - 2 := wrap_i64 (by omega) (by omega)
  have kn := vcall_kn (kn := 23) (K := KK) (d := 28) (fr := fr) (H := Heap.empty)
  simp only [fr, Nat.reduceAdd] at s0 s1 s2 s3 s4 s5 s6 kn
  refine ⟨Heap.empty, ?_⟩
  have hen : Heap.empty.next = 0 := rfl
  have hct : Heap.empty.cut 0 = Heap.empty := cut_self _ ok_empty
  simp only [encArgs, encArg, encS, encL_strs, List.headD, shSize]
  rw [vcall_bare hk rfl rfl rfl]
  by_cases h : 30 < parts.length
  · rw [if_pos h] at s1 s2
    have t1 := s1 _ (.list false)
    have t2 := s2 _ (.list false)
    rw [List.length_take, Nat.min_eq_left (by omega), List.map_take] at t1 t2
    have h' : (30 : Int) < parts.length := by omega
    have h30 : (30 : Int) ≤ parts.length := by omega
    simp [VF4, vst_some, vgd_true, vgd_false, vgo_nil, vgo_cons, vgo_guard, bwanted_some, vop_p, vop_l, vop_k, vop_n, vnorm_some, vseqc_normal, vseqc_exit, vseqc_ret, vcondc_true, vcondc_false, vexec_dreg, vdgo_nil, vdgo_p, vdgo_l, vdgo_k, vdgo_n, vdgo_gp, vdgo_gl, vdgo_gn, vdp_some, vdl_some, vdk_some, vdn_some, vdw_true, vdw_false, room_zero, room_put, get_room, next_room, get_hide, hide_zero, vexec_skip, vexec_exit, vexec_ret, vexec_reg, vexec_seq, vexec_cond, vexec_block, vexec_loop, blockO_exit, blockO_normal, blockO_ret, vfin_some, vend_normal, vend_ret, vbody_eq, outO_normal, outO_exit, outO_ret, vround_eq, vkeep_false, bkeep_cons, bkeep_nil, bput_some, bput_none, look_cons, look_nil, AOp.sub, POp.sub, LOp.sub, KOp.sub, NOp.sub, AX.sub, AX.subO, AX.ev, vP, vL, vK, vN, vElems, vElemSize, aP, aL, aK, aN, cB_add, cB_sub, cB_mul, cB_eql, cB_neq, cB_lss, cB_leq, cB_gtr, cB_geq, cB_xor, cB_and, cB_or, cS_eql, cS_neq, cS_lss, cS_leq, cS_gtr, cS_geq, aLoad, aBytesStr, aElems, aElemSize, Mk.val, next_push, next_put, get_push, get_put, Heap.read, List.replicate, List.replicate_succ, start, vRes, vResL, vResults, List.headD, vSlice, aBound, aBoundO, h', h30, hen, hct, s0, t1, t2, s3, s4, s5, s6, kn, w, vexit, fz, fzTidy]
  · rw [if_neg h] at s1 s2
    have t1 := s1 _ (.list false)
    have t2 := s2 _ (.list false)
    have h' : ¬ ((30 : Int) < parts.length) := by omega
    simp [VF4, vst_some, vgd_true, vgd_false, vgo_nil, vgo_cons, vgo_guard, bwanted_some, vop_p, vop_l, vop_k, vop_n, vnorm_some, vseqc_normal, vseqc_exit, vseqc_ret, vcondc_true, vcondc_false, vexec_dreg, vdgo_nil, vdgo_p, vdgo_l, vdgo_k, vdgo_n, vdgo_gp, vdgo_gl, vdgo_gn, vdp_some, vdl_some, vdk_some, vdn_some, vdw_true, vdw_false, room_zero, room_put, get_room, next_room, get_hide, hide_zero, vexec_skip, vexec_exit, vexec_ret, vexec_reg, vexec_seq, vexec_cond, vexec_block, vexec_loop, blockO_exit, blockO_normal, blockO_ret, vfin_some, vend_normal, vend_ret, vbody_eq, outO_normal, outO_exit, outO_ret, vround_eq, vkeep_false, bkeep_cons, bkeep_nil, bput_some, bput_none, look_cons, look_nil, AOp.sub, POp.sub, LOp.sub, KOp.sub, NOp.sub, AX.sub, AX.subO, AX.ev, vP, vL, vK, vN, vElems, vElemSize, aP, aL, aK, aN, cB_add, cB_sub, cB_mul, cB_eql, cB_neq, cB_lss, cB_leq, cB_gtr, cB_geq, cB_xor, cB_and, cB_or, cS_eql, cS_neq, cS_lss, cS_leq, cS_gtr, cS_geq, aLoad, aBytesStr, aElems, aElemSize, Mk.val, next_push, next_put, get_push, get_put, Heap.read, List.replicate, List.replicate_succ, start, vRes, vResL, vResults, List.headD, h', hen, hct, s0, t1, t2, s3, s4, s5, s6, kn, w, vexit, fz, fzTidy]
end Go.Proofs.Yteibgagdnidojaa.hashTells
