/- NumsShort, in V. -/
import Derived.Test.YteibgagdnidojaaSpNums
set_option linter.all false
namespace Go.Proofs.Yteibgagdnidojaa


theorem putOf_one {x : Nat} (h : x ≤ 4611686018427387903) : putOf [] [(x : Int)] = encN x := by
  have : numsOk (x : Int) = true := by simp [numsOk]; omega
  simp [putOf, runL, putStep, this]

theorem encN_small {x : Nat} (h : x < 128) : encN x = [UInt8.ofNat x] := by simp [encN, hiN_small h, loN_small h]
theorem encN_big {x : Nat} (h : ¬ x < 128) : encN x = UInt8.ofNat (x % 128 + 128) :: encN (x / 128) := by simp only [encN, hiN_big h, loN_big h, List.cons_append]
theorem encN_length (x : Nat) : (encN x).length = (hiN x).length + 1 := by simp [encN]

theorem byte_inj {x y : Nat} (hx : x < 256) (hy : y < 256) (h : UInt8.ofNat x = UInt8.ofNat y) : x = y := by
  have := congrArg UInt8.toNat h
  rwa [UInt8.toNat_ofNat', UInt8.toNat_ofNat', Nat.mod_eq_of_lt hx, Nat.mod_eq_of_lt hy] at this

theorem encN_pre {x : Nat} : ∀ {y : Nat} {r r' : List UInt8}, encN x ++ r = encN y ++ r' → x = y ∧ r = r' := by
  induction x using Nat.strongRecOn with
  | _ x ih =>
    intro y r r' h
    by_cases c : x < 128
    · by_cases c' : y < 128
      · rw [encN_small c, encN_small c'] at h
        simp only [List.singleton_append, List.cons.injEq] at h
        exact ⟨byte_inj (by omega) (by omega) h.1, h.2⟩
      · rw [encN_small c, encN_big c'] at h
        simp only [List.singleton_append, List.cons_append, List.cons.injEq] at h
        have := byte_inj (by omega) (by omega) h.1
        omega
    · by_cases c' : y < 128
      · rw [encN_big c, encN_small c'] at h
        simp only [List.singleton_append, List.cons_append, List.cons.injEq] at h
        have := byte_inj (by omega) (by omega) h.1
        omega
      · rw [encN_big c, encN_big c'] at h
        simp only [List.cons_append, List.cons.injEq] at h
        have h1 := byte_inj (by omega) (by omega) h.1
        have h2 := ih (x / 128) (by omega) h.2
        exact ⟨by omega, h2.2⟩

theorem hiN_mono {x : Nat} : ∀ {y : Nat}, x ≤ y → (hiN x).length ≤ (hiN y).length := by
  induction x using Nat.strongRecOn with
  | _ x ih =>
    intro y h
    by_cases c : x < 128
    · rw [hiN_small c]; simp
    · have c' : ¬ y < 128 := by omega
      rw [hiN_big c, hiN_big c']
      have := ih (x / 128) (by omega) (show x / 128 ≤ y / 128 by omega)
      simp only [List.length_cons]
      omega

namespace numsShort

theorem count (C : VCalls) (K0 : Nat) (fr : Fr) (v5 v6 v7 v8 : AV) (H : Heap) : ∀ (j K x n : Nat), x < 128 ^ (j + 1) → j < K → n + j ≤ 1000 → x ≤ 4611686018427387903 →
    vrun (vexec C K0 fr 59 VB15_0) false fr [5, 6, 7, 8, 9, 10] [5, 6, 7, 8, 9] K ([(5, v5), (6, v6), (7, v7), (8, v8), (9, .int .i64 n), (10, .int .i64 (x / 128 : Nat))], H) =
      some (.exit 0, [(5, v5), (6, v6), (7, v7), (8, v8), (9, .int .i64 (n + (hiN x).length : Nat))], H)
  | j, 0, x, n, h1, h2, h3, h4 => by omega
  | j, K + 1, x, n, h1, h2, h3, h4 => by
    by_cases c : x < 128
    · have c1 : x / 128 = 0 := by omega
      rw [hiN_small c]
      refine vrun_out ?_
      rw [c1]
      simp [VB15_0, vst_some, vgd_true, vgd_false, vgo_nil, vgo_cons, vgo_guard, bwanted_some, vop_p, vop_l, vop_k, vop_n, vnorm_some, vseqc_normal, vseqc_exit, vseqc_ret, vcondc_true, vcondc_false, vexec_dreg, vdgo_nil, vdgo_p, vdgo_l, vdgo_k, vdgo_n, vdgo_gp, vdgo_gl, vdgo_gn, vdp_some, vdl_some, vdk_some, vdn_some, vdw_true, vdw_false, room_zero, room_put, get_room, next_room, get_hide, hide_zero, vexec_skip, vexec_exit, vexec_ret, vexec_reg, vexec_seq, vexec_cond, vexec_block, vexec_loop, blockO_exit, blockO_normal, blockO_ret, vfin_some, vend_normal, vend_ret, vbody_eq, outO_normal, outO_exit, outO_ret, vround_eq, vkeep_false, bkeep_cons, bkeep_nil, bput_some, bput_none, look_cons, look_nil, AOp.sub, POp.sub, LOp.sub, KOp.sub, NOp.sub, AX.sub, AX.subO, AX.ev, vP, vL, vK, vN, vElems, vElemSize, aP, aL, aK, aN, cB_add, cB_sub, cB_mul, cB_eql, cB_neq, cB_lss, cB_leq, cB_gtr, cB_geq, cB_xor, cB_and, cB_or, cS_eql, cS_neq, cS_lss, cS_leq, cS_gtr, cS_geq, aLoad, aBytesStr, aElems, aElemSize, Mk.val, next_push, next_put, get_push, get_put, Heap.read, List.replicate, List.replicate_succ, start, vRes, vResL, vResults, List.headD]
    · obtain ⟨j, rfl⟩ : ∃ j', j = j' + 1 := ⟨j - 1, by cases j with | zero => simp at h1; omega | succ j => rfl⟩
      have c1 : (0 : Int) < x / 128 := by omega
      have c2 : IntKind.i64.wrap ((n : Int) + 1) = n + 1 := by rw [wrap_i64] <;> omega
      have c3 : kBin .quo (.int .i64 ((x : Int) / 128)) (.int .i64 128) = some (.int .i64 ((x : Int) / 128 / 128)) := by
        rw [cB_quo _ _ _ (by omega), Int.tdiv_eq_ediv_of_nonneg (by omega), wrap_i64] <;> omega
      have hr : vround (vexec C K0 fr 59 VB15_0) false fr [5, 6, 7, 8, 9, 10] [5, 6, 7, 8, 9] ([(5, v5), (6, v6), (7, v7), (8, v8), (9, .int .i64 n), (10, .int .i64 (x / 128 : Nat))], H) =
          some (.inl ([(5, v5), (6, v6), (7, v7), (8, v8), (9, .int .i64 (n + 1 : Nat)), (10, .int .i64 (x / 128 / 128 : Nat))], H)) := by
        simp [VB15_0, vst_some, vgd_true, vgd_false, vgo_nil, vgo_cons, vgo_guard, bwanted_some, vop_p, vop_l, vop_k, vop_n, vnorm_some, vseqc_normal, vseqc_exit, vseqc_ret, vcondc_true, vcondc_false, vexec_dreg, vdgo_nil, vdgo_p, vdgo_l, vdgo_k, vdgo_n, vdgo_gp, vdgo_gl, vdgo_gn, vdp_some, vdl_some, vdk_some, vdn_some, vdw_true, vdw_false, room_zero, room_put, get_room, next_room, get_hide, hide_zero, vexec_skip, vexec_exit, vexec_ret, vexec_reg, vexec_seq, vexec_cond, vexec_block, vexec_loop, blockO_exit, blockO_normal, blockO_ret, vfin_some, vend_normal, vend_ret, vbody_eq, outO_normal, outO_exit, outO_ret, vround_eq, vkeep_false, bkeep_cons, bkeep_nil, bput_some, bput_none, look_cons, look_nil, AOp.sub, POp.sub, LOp.sub, KOp.sub, NOp.sub, AX.sub, AX.subO, AX.ev, vP, vL, vK, vN, vElems, vElemSize, aP, aL, aK, aN, cB_add, cB_sub, cB_mul, cB_eql, cB_neq, cB_lss, cB_leq, cB_gtr, cB_geq, cB_xor, cB_and, cB_or, cS_eql, cS_neq, cS_lss, cS_leq, cS_gtr, cS_geq, aLoad, aBytesStr, aElems, aElemSize, Mk.val, next_push, next_put, get_push, get_put, Heap.read, List.replicate, List.replicate_succ, start, vRes, vResL, vResults, List.headD, c1, c2, c3]
      rw [vrun_on hr, count C K0 fr v5 v6 v7 v8 H j K (x / 128) (n + 1) (by rw [Nat.pow_succ] at h1; omega) (by omega) (by omega) (by omega), hiN_big c]
      simp only [List.length_cons]
      rw [show n + 1 + (hiN (x / 128)).length = n + ((hiN (x / 128)).length + 1) by omega]

set_option maxRecDepth 20000 in
set_option maxHeartbeats 8000000 in
theorem pure : VLaw (fun xs => vcall 51 vtab KK 30 fr0 15 xs Heap.empty) [.int .i64, .int .i64] 1048576 := by
  intro ds hare hb
  obtain ⟨d1, r1, rfl, i1, hare⟩ := are_cons hare
  obtain ⟨d2, r2, rfl, i2, hare⟩ := are_cons hare
  obtain rfl := are_nil hare
  obtain ⟨a, rfl, ha⟩ := i1
  obtain ⟨b, rfl, hb'⟩ := i2
  have hk : isKn 51 = true := rfl
  have hK : 1099511627776 < KK := by decide
  obtain ⟨x, hx, hmx⟩ := may_spec (K := KK) (d := 26) hk a ha
  obtain ⟨y, hy, hmy⟩ := may_spec (K := KK) (d := 26) hk b hb'
  have px := fun H hH q c ex hb => put_spec (K := KK) (d := 27) hk hK { mark := 0, tidy := [] } H hH (.slice none 1 0 0 true) (.slice (some (q, 0)) 1 1 c ex) [] [(x : Int)] (by simp) (.nil rfl rfl) (.own q c ex false false hb)
  have py := fun H hH q c ex hb => put_spec (K := KK) (d := 27) hk hK { mark := 0, tidy := [] } H hH (.slice none 1 0 0 true) (.slice (some (q, 0)) 1 1 c ex) [] [(y : Int)] (by simp) (.nil rfl rfl) (.own q c ex false false hb)
  have kn := fun H => vcall_kn (kn := 51) (K := KK) (d := 28) (fr := { mark := 0, tidy := [] }) (H := H)
  rw [putOf_one hx] at px
  rw [putOf_one hy] at py
  simp only [Nat.reduceAdd, List.map_cons, List.map_nil, bytesV] at hmx hmy px py kn
  have c3 : kBin .quo (.int .i64 (x : Int)) (.int .i64 128) = some (.int .i64 ((x : Int) / 128)) := by
    rw [cB_quo _ _ _ (by omega), Int.tdiv_eq_ediv_of_nonneg (by omega), wrap_i64] <;> omega
  have cn := fun v5 v6 v7 v8 H => count (vcall 51 vtab KK 29) KK { mark := 0, tidy := [] } v5 v6 v7 v8 H 9 KK x 1 (by
    have : (128 : Nat) ^ 10 = 1180591620717411303424 := by decide
    omega) (by have := hK; omega) (by omega) hx
  rw [show ((x / 128 : Nat) : Int) = (x : Int) / 128 by omega, show ((1 : Nat) : Int) = 1 by rfl] at cn
  refine ⟨Heap.empty, ?_⟩
  simp only [encArgs, encArg, encS, List.headD]
  rw [vcall_bare hk rfl rfl rfl]
  have l1 : ((encN x).length : Int) = 1 + ((hiN x).length : Int) := by rw [encN_length]; omega
  have nx : encN x ≠ [] := by simp [encN]
  have ny : encN y ≠ [] := by simp [encN]
  have tb := toBytes_map (encN x)
  have tb' := toBytes_map (encN y)
  have ne : x ≠ y → encN x ≠ encN y := fun h e => h (encN_pre (r := []) (r' := []) (by rw [e])).1
  by_cases c : y < x
  · have n1 : x ≠ y := by omega
    have n2 := ne n1
    have n3 : ¬ ((x : Int) = y) := by omega
    simp (maxDischargeDepth := 20) [VF15, vst_some, vgd_true, vgd_false, vgo_nil, vgo_cons, vgo_guard, bwanted_some, vop_p, vop_l, vop_k, vop_n, vnorm_some, vseqc_normal, vseqc_exit, vseqc_ret, vcondc_true, vcondc_false, vexec_dreg, vdgo_nil, vdgo_p, vdgo_l, vdgo_k, vdgo_n, vdgo_gp, vdgo_gl, vdgo_gn, vdp_some, vdl_some, vdk_some, vdn_some, vdw_true, vdw_false, room_zero, room_put, get_room, next_room, get_hide, hide_zero, vexec_skip, vexec_exit, vexec_ret, vexec_reg, vexec_seq, vexec_cond, vexec_block, vexec_loop, blockO_exit, blockO_normal, blockO_ret, vfin_some, vend_normal, vend_ret, vbody_eq, outO_normal, outO_exit, outO_ret, vround_eq, vkeep_false, bkeep_cons, bkeep_nil, bput_some, bput_none, look_cons, look_nil, AOp.sub, POp.sub, LOp.sub, KOp.sub, NOp.sub, AX.sub, AX.subO, AX.ev, vP, vL, vK, vN, vElems, vElemSize, aP, aL, aK, aN, cB_add, cB_sub, cB_mul, cB_eql, cB_neq, cB_lss, cB_leq, cB_gtr, cB_geq, cB_xor, cB_and, cB_or, cS_eql, cS_neq, cS_lss, cS_leq, cS_gtr, cS_geq, aLoad, aBytesStr, aElems, aElemSize, Mk.val, next_push, next_put, get_push, get_put, Heap.read, List.replicate, List.replicate_succ, start, vRes, vResL, vResults, List.headD, cut_zero, cut_p1, cut_p2, cut_p3, cut_p4, vexit, fz_int, fz_bool, fz_str, fz_nilFunc, fz_undef, fz_list, fz_elem, fz_nilptr, fz_nilmap, fz_ptr, fz_map, fz_nilslice, fz_func, fz_agg, fz_tuple, fz_slice, fzCells_some, fzL, fzTidy, reach, grow, idsOfL, idsOf, cellsOf, cut_put_lt, cut_push, put_put, okStore, aStore, ptrOk, AV.cells?, AV.isCell, Heap.write, aFill, aPart, aEqKs, aEqK, aUn, next_empty, loadOk, ofList, isList, bornL, bornX, bornOf, bornPut, bornP, known, knownL, AV.same, List.all_cons, List.all_nil, List.drop_zero, List.isEmpty_cons, List.isEmpty_nil, reps, hmx, hmy, px, py, kn, c3, cn, l1, tb, tb', nx, ny, c, n1, n2, n3, ok_push, ok_put, ok_empty]
  · by_cases e : x = y
    · subst e
      simp (maxDischargeDepth := 20) [VF15, vst_some, vgd_true, vgd_false, vgo_nil, vgo_cons, vgo_guard, bwanted_some, vop_p, vop_l, vop_k, vop_n, vnorm_some, vseqc_normal, vseqc_exit, vseqc_ret, vcondc_true, vcondc_false, vexec_dreg, vdgo_nil, vdgo_p, vdgo_l, vdgo_k, vdgo_n, vdgo_gp, vdgo_gl, vdgo_gn, vdp_some, vdl_some, vdk_some, vdn_some, vdw_true, vdw_false, room_zero, room_put, get_room, next_room, get_hide, hide_zero, vexec_skip, vexec_exit, vexec_ret, vexec_reg, vexec_seq, vexec_cond, vexec_block, vexec_loop, blockO_exit, blockO_normal, blockO_ret, vfin_some, vend_normal, vend_ret, vbody_eq, outO_normal, outO_exit, outO_ret, vround_eq, vkeep_false, bkeep_cons, bkeep_nil, bput_some, bput_none, look_cons, look_nil, AOp.sub, POp.sub, LOp.sub, KOp.sub, NOp.sub, AX.sub, AX.subO, AX.ev, vP, vL, vK, vN, vElems, vElemSize, aP, aL, aK, aN, cB_add, cB_sub, cB_mul, cB_eql, cB_neq, cB_lss, cB_leq, cB_gtr, cB_geq, cB_xor, cB_and, cB_or, cS_eql, cS_neq, cS_lss, cS_leq, cS_gtr, cS_geq, aLoad, aBytesStr, aElems, aElemSize, Mk.val, next_push, next_put, get_push, get_put, Heap.read, List.replicate, List.replicate_succ, start, vRes, vResL, vResults, List.headD, cut_zero, cut_p1, cut_p2, cut_p3, cut_p4, vexit, fz_int, fz_bool, fz_str, fz_nilFunc, fz_undef, fz_list, fz_elem, fz_nilptr, fz_nilmap, fz_ptr, fz_map, fz_nilslice, fz_func, fz_agg, fz_tuple, fz_slice, fzCells_some, fzL, fzTidy, reach, grow, idsOfL, idsOf, cellsOf, cut_put_lt, cut_push, put_put, okStore, aStore, ptrOk, AV.cells?, AV.isCell, Heap.write, aFill, aPart, aEqKs, aEqK, aUn, next_empty, loadOk, ofList, isList, bornL, bornX, bornOf, bornPut, bornP, known, knownL, AV.same, List.all_cons, List.all_nil, List.drop_zero, List.isEmpty_cons, List.isEmpty_nil, reps, hmx, hmy, px, py, kn, c3, cn, l1, tb, tb', nx, ny, c, ok_push, ok_put, ok_empty]
    · have n2 := ne e
      have n3 : ¬ ((x : Int) = y) := by omega
      have mono : (encN x).length ≤ (encN y).length := by rw [encN_length, encN_length]; have := hiN_mono (show x ≤ y by omega); omega
      have l3 : (1 : Int) + ((hiN x).length : Int) ≤ ((encN y).length : Int) := by omega
      simp (maxDischargeDepth := 20) [VF15, vst_some, vgd_true, vgd_false, vgo_nil, vgo_cons, vgo_guard, bwanted_some, vop_p, vop_l, vop_k, vop_n, vnorm_some, vseqc_normal, vseqc_exit, vseqc_ret, vcondc_true, vcondc_false, vexec_dreg, vdgo_nil, vdgo_p, vdgo_l, vdgo_k, vdgo_n, vdgo_gp, vdgo_gl, vdgo_gn, vdp_some, vdl_some, vdk_some, vdn_some, vdw_true, vdw_false, room_zero, room_put, get_room, next_room, get_hide, hide_zero, vexec_skip, vexec_exit, vexec_ret, vexec_reg, vexec_seq, vexec_cond, vexec_block, vexec_loop, blockO_exit, blockO_normal, blockO_ret, vfin_some, vend_normal, vend_ret, vbody_eq, outO_normal, outO_exit, outO_ret, vround_eq, vkeep_false, bkeep_cons, bkeep_nil, bput_some, bput_none, look_cons, look_nil, AOp.sub, POp.sub, LOp.sub, KOp.sub, NOp.sub, AX.sub, AX.subO, AX.ev, vP, vL, vK, vN, vElems, vElemSize, aP, aL, aK, aN, cB_add, cB_sub, cB_mul, cB_eql, cB_neq, cB_lss, cB_leq, cB_gtr, cB_geq, cB_xor, cB_and, cB_or, cS_eql, cS_neq, cS_lss, cS_leq, cS_gtr, cS_geq, aLoad, aBytesStr, aElems, aElemSize, Mk.val, next_push, next_put, get_push, get_put, Heap.read, List.replicate, List.replicate_succ, start, vRes, vResL, vResults, List.headD, cut_zero, cut_p1, cut_p2, cut_p3, cut_p4, vexit, fz_int, fz_bool, fz_str, fz_nilFunc, fz_undef, fz_list, fz_elem, fz_nilptr, fz_nilmap, fz_ptr, fz_map, fz_nilslice, fz_func, fz_agg, fz_tuple, fz_slice, fzCells_some, fzL, fzTidy, reach, grow, idsOfL, idsOf, cellsOf, cut_put_lt, cut_push, put_put, okStore, aStore, ptrOk, AV.cells?, AV.isCell, Heap.write, aFill, aPart, aEqKs, aEqK, aUn, next_empty, loadOk, ofList, isList, bornL, bornX, bornOf, bornPut, bornP, known, knownL, AV.same, List.all_cons, List.all_nil, List.drop_zero, List.isEmpty_cons, List.isEmpty_nil, reps, hmx, hmy, px, py, kn, c3, cn, l1, l3, tb, tb', nx, ny, c, e, n2, n3, ok_push, ok_put, ok_empty]
end numsShort
end Go.Proofs.Yteibgagdnidojaa
