/- NumsJoins, in V. -/
import Derived.Test.YteibgagdnidojaaSpApp
set_option linter.all false
namespace Go.Proofs.Yteibgagdnidojaa

/-- Whole numbers that grow: nothing yet, or a block of the frame's own. -/
def intsV (H : Heap) (s : List Int) : AV := match s with
  | [] => .slice none 1 0 0 true
  | c :: s => .slice (some (H.next, 0)) 1 (s.length + 1) (s.length + 1) false
def intsH (H : Heap) (s : List Int) : Heap := match s with
  | [] => H
  | c :: s => H.push (.cells (.int .i64 c :: s.map (.int .i64)) false true)
theorem take_ints (s : List Int) : List.take s.length (List.map (AV.int .i64) s) = List.map (AV.int .i64) s := by rw [List.take_of_length_le]; simp

theorem may_fun {kn K d : Nat} (hk : isKn kn = true) : ∃ m : Int → Nat, ∀ n, (-9223372036854775808 ≤ n ∧ n ≤ 9223372036854775807) → m n ≤ 4611686018427387903 ∧ ∀ fr H, H.Ok → vcall kn vtab K (d + 3) fr 49 [.int .i64 n] H = some (.int .i64 (m n : Int), H) := by
  classical
  refine ⟨fun n => if h : (-9223372036854775808 ≤ n ∧ n ≤ 9223372036854775807) then Classical.choose (may_spec (K := K) (d := d) hk n h) else 0, fun n hn => ?_⟩
  simp only [dif_pos hn]
  exact Classical.choose_spec (may_spec (K := K) (d := d) hk n hn)

namespace numsJoins

theorem round0 (C : VCalls) (K : Nat) (v1 v2 v3 v4 v5 : AV) (h1 : ∃ n cs ex, v1 = .list 1 n cs ex) (h2 : ∃ n cs ex, v2 = .list 1 n cs ex) (h3 : ∃ n cs ex, v3 = .list 1 n cs ex) (h4 : ∃ n, v4 = .int .i64 n) (h5 : ∃ n, v5 = .int .i64 n) (a : List Int) (i : Nat) (hi : i < a.length) (hi8 : i < 8) (m : Int) (hm0 : ∀ fr H, H.Ok → C fr 49 [.int .i64 a[i]] H = some (.int .i64 m, H)) (s : List Int) (hs : s.length ≤ 8) :
    vround (vexec C K { mark := 0, tidy := [] } 120 VB18_0) true { mark := 0, tidy := [] } [0, 1, 2, 3, 4, 5, 13, 14, 15] [1, 2, 3, 4, 5, 13, 14]
      ([(0, .list 1 a.length (a.map (.int .i64)) false), (1, v1), (2, v2), (3, v3), (4, v4), (5, v5), (13, intsV Heap.empty s), (14, .slice none 1 0 0 true), (15, .int .i64 i)], intsH Heap.empty s) =
    some (.inl ([(0, .list 1 a.length (a.map (.int .i64)) false), (1, v1), (2, v2), (3, v3), (4, v4), (5, v5), (13, intsV Heap.empty (s ++ [m])), (14, .slice none 1 0 0 true), (15, .int .i64 (i + 1 : Nat))], intsH Heap.empty (s ++ [m]))) := by
  obtain ⟨n1, cs1, ex1, rfl⟩ := h1
  obtain ⟨n2, cs2, ex2, rfl⟩ := h2
  obtain ⟨n3, cs3, ex3, rfl⟩ := h3
  obtain ⟨n4, rfl⟩ := h4
  obtain ⟨n5, rfl⟩ := h5
  have hLl := List.getElem?_eq_getElem hi
  generalize hLe : a[i] = L at *
  have hwr : IntKind.i64.wrap ((i : Int) + 1) = (i : Int) + 1 := by rw [wrap_i64] <;> omega
  have hi' : (i : Int) < 8 := by omega
  have hm := fun H hH => hm0 { mark := 0, tidy := [] } H hH
  cases s with
  | nil =>
    have c8 := True.intro
    have c9 := True.intro
    have c10 := True.intro
    have c11 := True.intro
    simp (maxDischargeDepth := 20) [VB18_0, vst_some, vgd_true, vgd_false, vgo_nil, vgo_cons, vgo_guard, bwanted_some, vop_p, vop_l, vop_k, vop_n, vnorm_some, vseqc_normal, vseqc_exit, vseqc_ret, vcondc_true, vcondc_false, vexec_dreg, vdgo_nil, vdgo_p, vdgo_l, vdgo_k, vdgo_n, vdgo_gp, vdgo_gl, vdgo_gk, vdgo_gn, vdp_some, vdl_some, vdk_some, vdn_some, vdw_true, vdw_false, room_zero, room_put, get_room, next_room, get_hide, hide_zero, vexec_skip, vexec_exit, vexec_ret, vexec_reg, vexec_seq, vexec_cond, vexec_block, vexec_loop, blockO_exit, blockO_normal, blockO_ret, vfin_some, vend_normal, vend_ret, vbody_eq, outO_normal, outO_exit, outO_ret, vround_eq, vkeep_false, bkeep_cons, bkeep_nil, bput_some, bput_none, look_cons, look_nil, AOp.sub, POp.sub, LOp.sub, KOp.sub, NOp.sub, AX.sub, AX.subO, AX.ev, vP, vL, vK, vN, vElems, vElemSize, aP, aL, aK, aN, cB_add, cB_sub, cB_mul, cB_eql, cB_neq, cB_lss, cB_leq, cB_gtr, cB_geq, cB_xor, cB_and, cB_or, cS_eql, cS_neq, cS_lss, cS_leq, cS_gtr, cS_geq, aLoad, aBytesStr, aElems, aElemSize, Mk.val, next_push, next_put, get_push, get_put, Heap.read, List.replicate, List.replicate_succ, start, vRes, vResL, vResults, List.headD, cut_zero, cut_p1, cut_p2, cut_p3, cut_p4, vexit, fz_int, fz_bool, fz_str, fz_nilFunc, fz_undef, fz_list, fz_elem, fz_nilptr, fz_nilmap, fz_ptr, fz_map, fz_nilslice, fz_func, fz_agg, fz_tuple, fz_slice, fzCells_some, fzL, fzTidy, reach, grow, idsOfL, idsOf, cellsOf, cut_put_lt, cut_push, put_put, okStore, aStore, ptrOk, AV.cells?, AV.isCell, Heap.write, aFill, aPart, aEqKs, aEqK, aUn, next_empty, idsOf_byteC, ren_byteC, fz_byteC, new_lt2, new_lt3, new_le2, new_le3, cut_zero, cut_p1, cut_p2, cut_p3, cut_p4, cut_app, cut_app0, cut_app1, new_lt, vkeep_true, gc, gcIds, reach, grow, idsOfL, idsOf, ddup, gcPush, gcTidy, zipKeep, renL, ren, renId, ixOf, cellsOf, cut_push, cut_put_lt, cut_put_ge, next_cut, get_cut, put_put, idsOfL_bytes, idsOfL_strs, idsOfL_ints, idsOfL_append, renL_bytes, renL_strs, renL_ints, renL_append, fzL_bytes, fzL_strs, fzL_ints, vAppend, appOk, aAppend, reps, intsV, intsH, hm, hLl, hLe, hi, hi', hwr, ok_push, ok_empty, take_ints, c8, c9, c10, c11]
  | cons c s =>
    simp only [List.length_cons] at hs
    have c8 : ¬ (s.length + 1 ≤ s.length) := by omega
    have c9 : s.length + 1 ≤ 70368744177664 := by omega
    have c10 : (s.length + 1 + 1) * 8 ≤ 70368744177664 := by omega
    have c11 : s.length ≤ 70368744177662 := by omega
    simp (maxDischargeDepth := 20) [VB18_0, vst_some, vgd_true, vgd_false, vgo_nil, vgo_cons, vgo_guard, bwanted_some, vop_p, vop_l, vop_k, vop_n, vnorm_some, vseqc_normal, vseqc_exit, vseqc_ret, vcondc_true, vcondc_false, vexec_dreg, vdgo_nil, vdgo_p, vdgo_l, vdgo_k, vdgo_n, vdgo_gp, vdgo_gl, vdgo_gk, vdgo_gn, vdp_some, vdl_some, vdk_some, vdn_some, vdw_true, vdw_false, room_zero, room_put, get_room, next_room, get_hide, hide_zero, vexec_skip, vexec_exit, vexec_ret, vexec_reg, vexec_seq, vexec_cond, vexec_block, vexec_loop, blockO_exit, blockO_normal, blockO_ret, vfin_some, vend_normal, vend_ret, vbody_eq, outO_normal, outO_exit, outO_ret, vround_eq, vkeep_false, bkeep_cons, bkeep_nil, bput_some, bput_none, look_cons, look_nil, AOp.sub, POp.sub, LOp.sub, KOp.sub, NOp.sub, AX.sub, AX.subO, AX.ev, vP, vL, vK, vN, vElems, vElemSize, aP, aL, aK, aN, cB_add, cB_sub, cB_mul, cB_eql, cB_neq, cB_lss, cB_leq, cB_gtr, cB_geq, cB_xor, cB_and, cB_or, cS_eql, cS_neq, cS_lss, cS_leq, cS_gtr, cS_geq, aLoad, aBytesStr, aElems, aElemSize, Mk.val, next_push, next_put, get_push, get_put, Heap.read, List.replicate, List.replicate_succ, start, vRes, vResL, vResults, List.headD, cut_zero, cut_p1, cut_p2, cut_p3, cut_p4, vexit, fz_int, fz_bool, fz_str, fz_nilFunc, fz_undef, fz_list, fz_elem, fz_nilptr, fz_nilmap, fz_ptr, fz_map, fz_nilslice, fz_func, fz_agg, fz_tuple, fz_slice, fzCells_some, fzL, fzTidy, reach, grow, idsOfL, idsOf, cellsOf, cut_put_lt, cut_push, put_put, okStore, aStore, ptrOk, AV.cells?, AV.isCell, Heap.write, aFill, aPart, aEqKs, aEqK, aUn, next_empty, idsOf_byteC, ren_byteC, fz_byteC, new_lt2, new_lt3, new_le2, new_le3, cut_zero, cut_p1, cut_p2, cut_p3, cut_p4, cut_app, cut_app0, cut_app1, new_lt, vkeep_true, gc, gcIds, reach, grow, idsOfL, idsOf, ddup, gcPush, gcTidy, zipKeep, renL, ren, renId, ixOf, cellsOf, cut_push, cut_put_lt, cut_put_ge, next_cut, get_cut, put_put, idsOfL_bytes, idsOfL_strs, idsOfL_ints, idsOfL_append, renL_bytes, renL_strs, renL_ints, renL_append, fzL_bytes, fzL_strs, fzL_ints, vAppend, appOk, aAppend, reps, intsV, intsH, hm, hLl, hLe, hi, hi', hwr, ok_push, ok_empty, take_ints, c8, c9, c10, c11]

theorem round1 (C : VCalls) (K : Nat) (v2 v3 v4 v5 : AV) (xs : List Int) (h2 : ∃ n cs ex, v2 = .list 1 n cs ex) (h3 : ∃ n cs ex, v3 = .list 1 n cs ex) (h4 : ∃ n, v4 = .int .i64 n) (h5 : ∃ n, v5 = .int .i64 n) (a : List Int) (i : Nat) (hi : i < a.length) (hi8 : i < 8) (m : Int) (hm0 : ∀ fr H, H.Ok → C fr 49 [.int .i64 a[i]] H = some (.int .i64 m, H)) (s : List Int) (hs : s.length ≤ 8) :
    vround (vexec C K { mark := 0, tidy := [] } 120 VB18_1) true { mark := 0, tidy := [] } [1, 2, 3, 4, 5, 13, 14, 16] [2, 3, 4, 5, 13, 14]
      ([(1, .list 1 a.length (a.map (.int .i64)) false), (2, v2), (3, v3), (4, v4), (5, v5), (13, intsV Heap.empty xs), (14, intsV (intsH Heap.empty xs) s), (16, .int .i64 i)], intsH (intsH Heap.empty xs) s) =
    some (.inl ([(1, .list 1 a.length (a.map (.int .i64)) false), (2, v2), (3, v3), (4, v4), (5, v5), (13, intsV Heap.empty xs), (14, intsV (intsH Heap.empty xs) (s ++ [m])), (16, .int .i64 (i + 1 : Nat))], intsH (intsH Heap.empty xs) (s ++ [m]))) := by
  obtain ⟨n2, cs2, ex2, rfl⟩ := h2
  obtain ⟨n3, cs3, ex3, rfl⟩ := h3
  obtain ⟨n4, rfl⟩ := h4
  obtain ⟨n5, rfl⟩ := h5
  have hLl := List.getElem?_eq_getElem hi
  generalize hLe : a[i] = L at *
  have hwr : IntKind.i64.wrap ((i : Int) + 1) = (i : Int) + 1 := by rw [wrap_i64] <;> omega
  have hi' : (i : Int) < 8 := by omega
  have hm := fun H hH => hm0 { mark := 0, tidy := [] } H hH
  cases xs with
  | nil =>
    cases s with
    | nil =>
      have c8 := True.intro
      have c9 := True.intro
      have c10 := True.intro
      have c11 := True.intro
      simp (maxDischargeDepth := 20) [VB18_1, vst_some, vgd_true, vgd_false, vgo_nil, vgo_cons, vgo_guard, bwanted_some, vop_p, vop_l, vop_k, vop_n, vnorm_some, vseqc_normal, vseqc_exit, vseqc_ret, vcondc_true, vcondc_false, vexec_dreg, vdgo_nil, vdgo_p, vdgo_l, vdgo_k, vdgo_n, vdgo_gp, vdgo_gl, vdgo_gk, vdgo_gn, vdp_some, vdl_some, vdk_some, vdn_some, vdw_true, vdw_false, room_zero, room_put, get_room, next_room, get_hide, hide_zero, vexec_skip, vexec_exit, vexec_ret, vexec_reg, vexec_seq, vexec_cond, vexec_block, vexec_loop, blockO_exit, blockO_normal, blockO_ret, vfin_some, vend_normal, vend_ret, vbody_eq, outO_normal, outO_exit, outO_ret, vround_eq, vkeep_false, bkeep_cons, bkeep_nil, bput_some, bput_none, look_cons, look_nil, AOp.sub, POp.sub, LOp.sub, KOp.sub, NOp.sub, AX.sub, AX.subO, AX.ev, vP, vL, vK, vN, vElems, vElemSize, aP, aL, aK, aN, cB_add, cB_sub, cB_mul, cB_eql, cB_neq, cB_lss, cB_leq, cB_gtr, cB_geq, cB_xor, cB_and, cB_or, cS_eql, cS_neq, cS_lss, cS_leq, cS_gtr, cS_geq, aLoad, aBytesStr, aElems, aElemSize, Mk.val, next_push, next_put, get_push, get_put, Heap.read, List.replicate, List.replicate_succ, start, vRes, vResL, vResults, List.headD, cut_zero, cut_p1, cut_p2, cut_p3, cut_p4, vexit, fz_int, fz_bool, fz_str, fz_nilFunc, fz_undef, fz_list, fz_elem, fz_nilptr, fz_nilmap, fz_ptr, fz_map, fz_nilslice, fz_func, fz_agg, fz_tuple, fz_slice, fzCells_some, fzL, fzTidy, reach, grow, idsOfL, idsOf, cellsOf, cut_put_lt, cut_push, put_put, okStore, aStore, ptrOk, AV.cells?, AV.isCell, Heap.write, aFill, aPart, aEqKs, aEqK, aUn, next_empty, idsOf_byteC, ren_byteC, fz_byteC, new_lt2, new_lt3, new_le2, new_le3, cut_zero, cut_p1, cut_p2, cut_p3, cut_p4, cut_app, cut_app0, cut_app1, new_lt, vkeep_true, gc, gcIds, reach, grow, idsOfL, idsOf, ddup, gcPush, gcTidy, zipKeep, renL, ren, renId, ixOf, cellsOf, cut_push, cut_put_lt, cut_put_ge, next_cut, get_cut, put_put, idsOfL_bytes, idsOfL_strs, idsOfL_ints, idsOfL_append, renL_bytes, renL_strs, renL_ints, renL_append, fzL_bytes, fzL_strs, fzL_ints, vAppend, appOk, aAppend, reps, intsV, intsH, hm, hLl, hLe, hi, hi', hwr, ok_push, ok_empty, take_ints, c8, c9, c10, c11]
    | cons c s =>
      simp only [List.length_cons] at hs
      have c8 : ¬ (s.length + 1 ≤ s.length) := by omega
      have c9 : s.length + 1 ≤ 70368744177664 := by omega
      have c10 : (s.length + 1 + 1) * 8 ≤ 70368744177664 := by omega
      have c11 : s.length ≤ 70368744177662 := by omega
      simp (maxDischargeDepth := 20) [VB18_1, vst_some, vgd_true, vgd_false, vgo_nil, vgo_cons, vgo_guard, bwanted_some, vop_p, vop_l, vop_k, vop_n, vnorm_some, vseqc_normal, vseqc_exit, vseqc_ret, vcondc_true, vcondc_false, vexec_dreg, vdgo_nil, vdgo_p, vdgo_l, vdgo_k, vdgo_n, vdgo_gp, vdgo_gl, vdgo_gk, vdgo_gn, vdp_some, vdl_some, vdk_some, vdn_some, vdw_true, vdw_false, room_zero, room_put, get_room, next_room, get_hide, hide_zero, vexec_skip, vexec_exit, vexec_ret, vexec_reg, vexec_seq, vexec_cond, vexec_block, vexec_loop, blockO_exit, blockO_normal, blockO_ret, vfin_some, vend_normal, vend_ret, vbody_eq, outO_normal, outO_exit, outO_ret, vround_eq, vkeep_false, bkeep_cons, bkeep_nil, bput_some, bput_none, look_cons, look_nil, AOp.sub, POp.sub, LOp.sub, KOp.sub, NOp.sub, AX.sub, AX.subO, AX.ev, vP, vL, vK, vN, vElems, vElemSize, aP, aL, aK, aN, cB_add, cB_sub, cB_mul, cB_eql, cB_neq, cB_lss, cB_leq, cB_gtr, cB_geq, cB_xor, cB_and, cB_or, cS_eql, cS_neq, cS_lss, cS_leq, cS_gtr, cS_geq, aLoad, aBytesStr, aElems, aElemSize, Mk.val, next_push, next_put, get_push, get_put, Heap.read, List.replicate, List.replicate_succ, start, vRes, vResL, vResults, List.headD, cut_zero, cut_p1, cut_p2, cut_p3, cut_p4, vexit, fz_int, fz_bool, fz_str, fz_nilFunc, fz_undef, fz_list, fz_elem, fz_nilptr, fz_nilmap, fz_ptr, fz_map, fz_nilslice, fz_func, fz_agg, fz_tuple, fz_slice, fzCells_some, fzL, fzTidy, reach, grow, idsOfL, idsOf, cellsOf, cut_put_lt, cut_push, put_put, okStore, aStore, ptrOk, AV.cells?, AV.isCell, Heap.write, aFill, aPart, aEqKs, aEqK, aUn, next_empty, idsOf_byteC, ren_byteC, fz_byteC, new_lt2, new_lt3, new_le2, new_le3, cut_zero, cut_p1, cut_p2, cut_p3, cut_p4, cut_app, cut_app0, cut_app1, new_lt, vkeep_true, gc, gcIds, reach, grow, idsOfL, idsOf, ddup, gcPush, gcTidy, zipKeep, renL, ren, renId, ixOf, cellsOf, cut_push, cut_put_lt, cut_put_ge, next_cut, get_cut, put_put, idsOfL_bytes, idsOfL_strs, idsOfL_ints, idsOfL_append, renL_bytes, renL_strs, renL_ints, renL_append, fzL_bytes, fzL_strs, fzL_ints, vAppend, appOk, aAppend, reps, intsV, intsH, hm, hLl, hLe, hi, hi', hwr, ok_push, ok_empty, take_ints, c8, c9, c10, c11]
  | cons x xs =>
    cases s with
    | nil =>
      have c8 := True.intro
      have c9 := True.intro
      have c10 := True.intro
      have c11 := True.intro
      simp (maxDischargeDepth := 20) [VB18_1, vst_some, vgd_true, vgd_false, vgo_nil, vgo_cons, vgo_guard, bwanted_some, vop_p, vop_l, vop_k, vop_n, vnorm_some, vseqc_normal, vseqc_exit, vseqc_ret, vcondc_true, vcondc_false, vexec_dreg, vdgo_nil, vdgo_p, vdgo_l, vdgo_k, vdgo_n, vdgo_gp, vdgo_gl, vdgo_gk, vdgo_gn, vdp_some, vdl_some, vdk_some, vdn_some, vdw_true, vdw_false, room_zero, room_put, get_room, next_room, get_hide, hide_zero, vexec_skip, vexec_exit, vexec_ret, vexec_reg, vexec_seq, vexec_cond, vexec_block, vexec_loop, blockO_exit, blockO_normal, blockO_ret, vfin_some, vend_normal, vend_ret, vbody_eq, outO_normal, outO_exit, outO_ret, vround_eq, vkeep_false, bkeep_cons, bkeep_nil, bput_some, bput_none, look_cons, look_nil, AOp.sub, POp.sub, LOp.sub, KOp.sub, NOp.sub, AX.sub, AX.subO, AX.ev, vP, vL, vK, vN, vElems, vElemSize, aP, aL, aK, aN, cB_add, cB_sub, cB_mul, cB_eql, cB_neq, cB_lss, cB_leq, cB_gtr, cB_geq, cB_xor, cB_and, cB_or, cS_eql, cS_neq, cS_lss, cS_leq, cS_gtr, cS_geq, aLoad, aBytesStr, aElems, aElemSize, Mk.val, next_push, next_put, get_push, get_put, Heap.read, List.replicate, List.replicate_succ, start, vRes, vResL, vResults, List.headD, cut_zero, cut_p1, cut_p2, cut_p3, cut_p4, vexit, fz_int, fz_bool, fz_str, fz_nilFunc, fz_undef, fz_list, fz_elem, fz_nilptr, fz_nilmap, fz_ptr, fz_map, fz_nilslice, fz_func, fz_agg, fz_tuple, fz_slice, fzCells_some, fzL, fzTidy, reach, grow, idsOfL, idsOf, cellsOf, cut_put_lt, cut_push, put_put, okStore, aStore, ptrOk, AV.cells?, AV.isCell, Heap.write, aFill, aPart, aEqKs, aEqK, aUn, next_empty, idsOf_byteC, ren_byteC, fz_byteC, new_lt2, new_lt3, new_le2, new_le3, cut_zero, cut_p1, cut_p2, cut_p3, cut_p4, cut_app, cut_app0, cut_app1, new_lt, vkeep_true, gc, gcIds, reach, grow, idsOfL, idsOf, ddup, gcPush, gcTidy, zipKeep, renL, ren, renId, ixOf, cellsOf, cut_push, cut_put_lt, cut_put_ge, next_cut, get_cut, put_put, idsOfL_bytes, idsOfL_strs, idsOfL_ints, idsOfL_append, renL_bytes, renL_strs, renL_ints, renL_append, fzL_bytes, fzL_strs, fzL_ints, vAppend, appOk, aAppend, reps, intsV, intsH, hm, hLl, hLe, hi, hi', hwr, ok_push, ok_empty, take_ints, c8, c9, c10, c11]
    | cons c s =>
      simp only [List.length_cons] at hs
      have c8 : ¬ (s.length + 1 ≤ s.length) := by omega
      have c9 : s.length + 1 ≤ 70368744177664 := by omega
      have c10 : (s.length + 1 + 1) * 8 ≤ 70368744177664 := by omega
      have c11 : s.length ≤ 70368744177662 := by omega
      simp (maxDischargeDepth := 20) [VB18_1, vst_some, vgd_true, vgd_false, vgo_nil, vgo_cons, vgo_guard, bwanted_some, vop_p, vop_l, vop_k, vop_n, vnorm_some, vseqc_normal, vseqc_exit, vseqc_ret, vcondc_true, vcondc_false, vexec_dreg, vdgo_nil, vdgo_p, vdgo_l, vdgo_k, vdgo_n, vdgo_gp, vdgo_gl, vdgo_gk, vdgo_gn, vdp_some, vdl_some, vdk_some, vdn_some, vdw_true, vdw_false, room_zero, room_put, get_room, next_room, get_hide, hide_zero, vexec_skip, vexec_exit, vexec_ret, vexec_reg, vexec_seq, vexec_cond, vexec_block, vexec_loop, blockO_exit, blockO_normal, blockO_ret, vfin_some, vend_normal, vend_ret, vbody_eq, outO_normal, outO_exit, outO_ret, vround_eq, vkeep_false, bkeep_cons, bkeep_nil, bput_some, bput_none, look_cons, look_nil, AOp.sub, POp.sub, LOp.sub, KOp.sub, NOp.sub, AX.sub, AX.subO, AX.ev, vP, vL, vK, vN, vElems, vElemSize, aP, aL, aK, aN, cB_add, cB_sub, cB_mul, cB_eql, cB_neq, cB_lss, cB_leq, cB_gtr, cB_geq, cB_xor, cB_and, cB_or, cS_eql, cS_neq, cS_lss, cS_leq, cS_gtr, cS_geq, aLoad, aBytesStr, aElems, aElemSize, Mk.val, next_push, next_put, get_push, get_put, Heap.read, List.replicate, List.replicate_succ, start, vRes, vResL, vResults, List.headD, cut_zero, cut_p1, cut_p2, cut_p3, cut_p4, vexit, fz_int, fz_bool, fz_str, fz_nilFunc, fz_undef, fz_list, fz_elem, fz_nilptr, fz_nilmap, fz_ptr, fz_map, fz_nilslice, fz_func, fz_agg, fz_tuple, fz_slice, fzCells_some, fzL, fzTidy, reach, grow, idsOfL, idsOf, cellsOf, cut_put_lt, cut_push, put_put, okStore, aStore, ptrOk, AV.cells?, AV.isCell, Heap.write, aFill, aPart, aEqKs, aEqK, aUn, next_empty, idsOf_byteC, ren_byteC, fz_byteC, new_lt2, new_lt3, new_le2, new_le3, cut_zero, cut_p1, cut_p2, cut_p3, cut_p4, cut_app, cut_app0, cut_app1, new_lt, vkeep_true, gc, gcIds, reach, grow, idsOfL, idsOf, ddup, gcPush, gcTidy, zipKeep, renL, ren, renId, ixOf, cellsOf, cut_push, cut_put_lt, cut_put_ge, next_cut, get_cut, put_put, idsOfL_bytes, idsOfL_strs, idsOfL_ints, idsOfL_append, renL_bytes, renL_strs, renL_ints, renL_append, fzL_bytes, fzL_strs, fzL_ints, vAppend, appOk, aAppend, reps, intsV, intsH, hm, hLl, hLe, hi, hi', hwr, ok_push, ok_empty, take_ints, c8, c9, c10, c11]

theorem end0 (C : VCalls) (K : Nat) (v1 v2 v3 v4 v5 : AV) (h1 : ∃ n cs ex, v1 = .list 1 n cs ex) (h2 : ∃ n cs ex, v2 = .list 1 n cs ex) (h3 : ∃ n cs ex, v3 = .list 1 n cs ex) (h4 : ∃ n, v4 = .int .i64 n) (h5 : ∃ n, v5 = .int .i64 n) (a : List Int) (i : Nat) (hi : ¬ (i < a.length ∧ i < 8)) (s : List Int) :
    vround (vexec C K { mark := 0, tidy := [] } 120 VB18_0) true { mark := 0, tidy := [] } [0, 1, 2, 3, 4, 5, 13, 14, 15] [1, 2, 3, 4, 5, 13, 14]
      ([(0, .list 1 a.length (a.map (.int .i64)) false), (1, v1), (2, v2), (3, v3), (4, v4), (5, v5), (13, intsV Heap.empty s), (14, .slice none 1 0 0 true), (15, .int .i64 i)], intsH Heap.empty s) =
    some (.inr (.exit 0, [(1, v1), (2, v2), (3, v3), (4, v4), (5, v5), (13, intsV Heap.empty s), (14, .slice none 1 0 0 true)], intsH Heap.empty s)) := by
  obtain ⟨n1, cs1, ex1, rfl⟩ := h1
  obtain ⟨n2, cs2, ex2, rfl⟩ := h2
  obtain ⟨n3, cs3, ex3, rfl⟩ := h3
  obtain ⟨n4, rfl⟩ := h4
  obtain ⟨n5, rfl⟩ := h5
  by_cases c : i < a.length
  · have c' : ¬ ((i : Int) < 8) := by omega
    cases s <;> simp (maxDischargeDepth := 20) [VB18_0, vst_some, vgd_true, vgd_false, vgo_nil, vgo_cons, vgo_guard, bwanted_some, vop_p, vop_l, vop_k, vop_n, vnorm_some, vseqc_normal, vseqc_exit, vseqc_ret, vcondc_true, vcondc_false, vexec_dreg, vdgo_nil, vdgo_p, vdgo_l, vdgo_k, vdgo_n, vdgo_gp, vdgo_gl, vdgo_gk, vdgo_gn, vdp_some, vdl_some, vdk_some, vdn_some, vdw_true, vdw_false, room_zero, room_put, get_room, next_room, get_hide, hide_zero, vexec_skip, vexec_exit, vexec_ret, vexec_reg, vexec_seq, vexec_cond, vexec_block, vexec_loop, blockO_exit, blockO_normal, blockO_ret, vfin_some, vend_normal, vend_ret, vbody_eq, outO_normal, outO_exit, outO_ret, vround_eq, vkeep_false, bkeep_cons, bkeep_nil, bput_some, bput_none, look_cons, look_nil, AOp.sub, POp.sub, LOp.sub, KOp.sub, NOp.sub, AX.sub, AX.subO, AX.ev, vP, vL, vK, vN, vElems, vElemSize, aP, aL, aK, aN, cB_add, cB_sub, cB_mul, cB_eql, cB_neq, cB_lss, cB_leq, cB_gtr, cB_geq, cB_xor, cB_and, cB_or, cS_eql, cS_neq, cS_lss, cS_leq, cS_gtr, cS_geq, aLoad, aBytesStr, aElems, aElemSize, Mk.val, next_push, next_put, get_push, get_put, Heap.read, List.replicate, List.replicate_succ, start, vRes, vResL, vResults, List.headD, cut_zero, cut_p1, cut_p2, cut_p3, cut_p4, vexit, fz_int, fz_bool, fz_str, fz_nilFunc, fz_undef, fz_list, fz_elem, fz_nilptr, fz_nilmap, fz_ptr, fz_map, fz_nilslice, fz_func, fz_agg, fz_tuple, fz_slice, fzCells_some, fzL, fzTidy, reach, grow, idsOfL, idsOf, cellsOf, cut_put_lt, cut_push, put_put, okStore, aStore, ptrOk, AV.cells?, AV.isCell, Heap.write, aFill, aPart, aEqKs, aEqK, aUn, next_empty, idsOf_byteC, ren_byteC, fz_byteC, new_lt2, new_lt3, new_le2, new_le3, cut_zero, cut_p1, cut_p2, cut_p3, cut_p4, cut_app, cut_app0, cut_app1, new_lt, vkeep_true, gc, gcIds, reach, grow, idsOfL, idsOf, ddup, gcPush, gcTidy, zipKeep, renL, ren, renId, ixOf, cellsOf, cut_push, cut_put_lt, cut_put_ge, next_cut, get_cut, put_put, idsOfL_bytes, idsOfL_strs, idsOfL_ints, idsOfL_append, renL_bytes, renL_strs, renL_ints, renL_append, fzL_bytes, fzL_strs, fzL_ints, intsV, intsH, c, c']
  · cases s <;> simp (maxDischargeDepth := 20) [VB18_0, vst_some, vgd_true, vgd_false, vgo_nil, vgo_cons, vgo_guard, bwanted_some, vop_p, vop_l, vop_k, vop_n, vnorm_some, vseqc_normal, vseqc_exit, vseqc_ret, vcondc_true, vcondc_false, vexec_dreg, vdgo_nil, vdgo_p, vdgo_l, vdgo_k, vdgo_n, vdgo_gp, vdgo_gl, vdgo_gk, vdgo_gn, vdp_some, vdl_some, vdk_some, vdn_some, vdw_true, vdw_false, room_zero, room_put, get_room, next_room, get_hide, hide_zero, vexec_skip, vexec_exit, vexec_ret, vexec_reg, vexec_seq, vexec_cond, vexec_block, vexec_loop, blockO_exit, blockO_normal, blockO_ret, vfin_some, vend_normal, vend_ret, vbody_eq, outO_normal, outO_exit, outO_ret, vround_eq, vkeep_false, bkeep_cons, bkeep_nil, bput_some, bput_none, look_cons, look_nil, AOp.sub, POp.sub, LOp.sub, KOp.sub, NOp.sub, AX.sub, AX.subO, AX.ev, vP, vL, vK, vN, vElems, vElemSize, aP, aL, aK, aN, cB_add, cB_sub, cB_mul, cB_eql, cB_neq, cB_lss, cB_leq, cB_gtr, cB_geq, cB_xor, cB_and, cB_or, cS_eql, cS_neq, cS_lss, cS_leq, cS_gtr, cS_geq, aLoad, aBytesStr, aElems, aElemSize, Mk.val, next_push, next_put, get_push, get_put, Heap.read, List.replicate, List.replicate_succ, start, vRes, vResL, vResults, List.headD, cut_zero, cut_p1, cut_p2, cut_p3, cut_p4, vexit, fz_int, fz_bool, fz_str, fz_nilFunc, fz_undef, fz_list, fz_elem, fz_nilptr, fz_nilmap, fz_ptr, fz_map, fz_nilslice, fz_func, fz_agg, fz_tuple, fz_slice, fzCells_some, fzL, fzTidy, reach, grow, idsOfL, idsOf, cellsOf, cut_put_lt, cut_push, put_put, okStore, aStore, ptrOk, AV.cells?, AV.isCell, Heap.write, aFill, aPart, aEqKs, aEqK, aUn, next_empty, idsOf_byteC, ren_byteC, fz_byteC, new_lt2, new_lt3, new_le2, new_le3, cut_zero, cut_p1, cut_p2, cut_p3, cut_p4, cut_app, cut_app0, cut_app1, new_lt, vkeep_true, gc, gcIds, reach, grow, idsOfL, idsOf, ddup, gcPush, gcTidy, zipKeep, renL, ren, renId, ixOf, cellsOf, cut_push, cut_put_lt, cut_put_ge, next_cut, get_cut, put_put, idsOfL_bytes, idsOfL_strs, idsOfL_ints, idsOfL_append, renL_bytes, renL_strs, renL_ints, renL_append, fzL_bytes, fzL_strs, fzL_ints, intsV, intsH, c]

theorem end1 (C : VCalls) (K : Nat) (v2 v3 v4 v5 : AV) (xs : List Int) (h2 : ∃ n cs ex, v2 = .list 1 n cs ex) (h3 : ∃ n cs ex, v3 = .list 1 n cs ex) (h4 : ∃ n, v4 = .int .i64 n) (h5 : ∃ n, v5 = .int .i64 n) (a : List Int) (i : Nat) (hi : ¬ (i < a.length ∧ i < 8)) (s : List Int) :
    vround (vexec C K { mark := 0, tidy := [] } 120 VB18_1) true { mark := 0, tidy := [] } [1, 2, 3, 4, 5, 13, 14, 16] [2, 3, 4, 5, 13, 14]
      ([(1, .list 1 a.length (a.map (.int .i64)) false), (2, v2), (3, v3), (4, v4), (5, v5), (13, intsV Heap.empty xs), (14, intsV (intsH Heap.empty xs) s), (16, .int .i64 i)], intsH (intsH Heap.empty xs) s) =
    some (.inr (.exit 2, [(2, v2), (3, v3), (4, v4), (5, v5), (13, intsV Heap.empty xs), (14, intsV (intsH Heap.empty xs) s)], intsH (intsH Heap.empty xs) s)) := by
  obtain ⟨n2, cs2, ex2, rfl⟩ := h2
  obtain ⟨n3, cs3, ex3, rfl⟩ := h3
  obtain ⟨n4, rfl⟩ := h4
  obtain ⟨n5, rfl⟩ := h5
  by_cases c : i < a.length
  · have c' : ¬ ((i : Int) < 8) := by omega
    cases xs <;> cases s <;> simp (maxDischargeDepth := 20) [VB18_1, vst_some, vgd_true, vgd_false, vgo_nil, vgo_cons, vgo_guard, bwanted_some, vop_p, vop_l, vop_k, vop_n, vnorm_some, vseqc_normal, vseqc_exit, vseqc_ret, vcondc_true, vcondc_false, vexec_dreg, vdgo_nil, vdgo_p, vdgo_l, vdgo_k, vdgo_n, vdgo_gp, vdgo_gl, vdgo_gk, vdgo_gn, vdp_some, vdl_some, vdk_some, vdn_some, vdw_true, vdw_false, room_zero, room_put, get_room, next_room, get_hide, hide_zero, vexec_skip, vexec_exit, vexec_ret, vexec_reg, vexec_seq, vexec_cond, vexec_block, vexec_loop, blockO_exit, blockO_normal, blockO_ret, vfin_some, vend_normal, vend_ret, vbody_eq, outO_normal, outO_exit, outO_ret, vround_eq, vkeep_false, bkeep_cons, bkeep_nil, bput_some, bput_none, look_cons, look_nil, AOp.sub, POp.sub, LOp.sub, KOp.sub, NOp.sub, AX.sub, AX.subO, AX.ev, vP, vL, vK, vN, vElems, vElemSize, aP, aL, aK, aN, cB_add, cB_sub, cB_mul, cB_eql, cB_neq, cB_lss, cB_leq, cB_gtr, cB_geq, cB_xor, cB_and, cB_or, cS_eql, cS_neq, cS_lss, cS_leq, cS_gtr, cS_geq, aLoad, aBytesStr, aElems, aElemSize, Mk.val, next_push, next_put, get_push, get_put, Heap.read, List.replicate, List.replicate_succ, start, vRes, vResL, vResults, List.headD, cut_zero, cut_p1, cut_p2, cut_p3, cut_p4, vexit, fz_int, fz_bool, fz_str, fz_nilFunc, fz_undef, fz_list, fz_elem, fz_nilptr, fz_nilmap, fz_ptr, fz_map, fz_nilslice, fz_func, fz_agg, fz_tuple, fz_slice, fzCells_some, fzL, fzTidy, reach, grow, idsOfL, idsOf, cellsOf, cut_put_lt, cut_push, put_put, okStore, aStore, ptrOk, AV.cells?, AV.isCell, Heap.write, aFill, aPart, aEqKs, aEqK, aUn, next_empty, idsOf_byteC, ren_byteC, fz_byteC, new_lt2, new_lt3, new_le2, new_le3, cut_zero, cut_p1, cut_p2, cut_p3, cut_p4, cut_app, cut_app0, cut_app1, new_lt, vkeep_true, gc, gcIds, reach, grow, idsOfL, idsOf, ddup, gcPush, gcTidy, zipKeep, renL, ren, renId, ixOf, cellsOf, cut_push, cut_put_lt, cut_put_ge, next_cut, get_cut, put_put, idsOfL_bytes, idsOfL_strs, idsOfL_ints, idsOfL_append, renL_bytes, renL_strs, renL_ints, renL_append, fzL_bytes, fzL_strs, fzL_ints, intsV, intsH, c, c']
  · cases xs <;> cases s <;> simp (maxDischargeDepth := 20) [VB18_1, vst_some, vgd_true, vgd_false, vgo_nil, vgo_cons, vgo_guard, bwanted_some, vop_p, vop_l, vop_k, vop_n, vnorm_some, vseqc_normal, vseqc_exit, vseqc_ret, vcondc_true, vcondc_false, vexec_dreg, vdgo_nil, vdgo_p, vdgo_l, vdgo_k, vdgo_n, vdgo_gp, vdgo_gl, vdgo_gk, vdgo_gn, vdp_some, vdl_some, vdk_some, vdn_some, vdw_true, vdw_false, room_zero, room_put, get_room, next_room, get_hide, hide_zero, vexec_skip, vexec_exit, vexec_ret, vexec_reg, vexec_seq, vexec_cond, vexec_block, vexec_loop, blockO_exit, blockO_normal, blockO_ret, vfin_some, vend_normal, vend_ret, vbody_eq, outO_normal, outO_exit, outO_ret, vround_eq, vkeep_false, bkeep_cons, bkeep_nil, bput_some, bput_none, look_cons, look_nil, AOp.sub, POp.sub, LOp.sub, KOp.sub, NOp.sub, AX.sub, AX.subO, AX.ev, vP, vL, vK, vN, vElems, vElemSize, aP, aL, aK, aN, cB_add, cB_sub, cB_mul, cB_eql, cB_neq, cB_lss, cB_leq, cB_gtr, cB_geq, cB_xor, cB_and, cB_or, cS_eql, cS_neq, cS_lss, cS_leq, cS_gtr, cS_geq, aLoad, aBytesStr, aElems, aElemSize, Mk.val, next_push, next_put, get_push, get_put, Heap.read, List.replicate, List.replicate_succ, start, vRes, vResL, vResults, List.headD, cut_zero, cut_p1, cut_p2, cut_p3, cut_p4, vexit, fz_int, fz_bool, fz_str, fz_nilFunc, fz_undef, fz_list, fz_elem, fz_nilptr, fz_nilmap, fz_ptr, fz_map, fz_nilslice, fz_func, fz_agg, fz_tuple, fz_slice, fzCells_some, fzL, fzTidy, reach, grow, idsOfL, idsOf, cellsOf, cut_put_lt, cut_push, put_put, okStore, aStore, ptrOk, AV.cells?, AV.isCell, Heap.write, aFill, aPart, aEqKs, aEqK, aUn, next_empty, idsOf_byteC, ren_byteC, fz_byteC, new_lt2, new_lt3, new_le2, new_le3, cut_zero, cut_p1, cut_p2, cut_p3, cut_p4, cut_app, cut_app0, cut_app1, new_lt, vkeep_true, gc, gcIds, reach, grow, idsOfL, idsOf, ddup, gcPush, gcTidy, zipKeep, renL, ren, renId, ixOf, cellsOf, cut_push, cut_put_lt, cut_put_ge, next_cut, get_cut, put_put, idsOfL_bytes, idsOfL_strs, idsOfL_ints, idsOfL_append, renL_bytes, renL_strs, renL_ints, renL_append, fzL_bytes, fzL_strs, fzL_ints, intsV, intsH, c]

theorem fold_map (m : Int → Nat) : ∀ (l s : List Int), l.foldl (fun s x => s ++ [(m x : Int)]) s = s ++ l.map (fun x => (m x : Int))
  | [], s => by simp
  | x :: l, s => by rw [List.foldl_cons, fold_map m l]; simp

theorem loop0 (C : VCalls) (K : Nat) (hK : 8 < K) (v1 v2 v3 v4 v5 : AV) (h1 : ∃ n cs ex, v1 = .list 1 n cs ex) (h2 : ∃ n cs ex, v2 = .list 1 n cs ex) (h3 : ∃ n cs ex, v3 = .list 1 n cs ex) (h4 : ∃ n, v4 = .int .i64 n) (h5 : ∃ n, v5 = .int .i64 n) (a : List Int) (m : Int → Nat) (hm0 : ∀ x ∈ a, ∀ fr H, H.Ok → C fr 49 [.int .i64 x] H = some (.int .i64 (m x : Int), H)) :
    vrun (vexec C K { mark := 0, tidy := [] } 120 VB18_0) true { mark := 0, tidy := [] } [0, 1, 2, 3, 4, 5, 13, 14, 15] [1, 2, 3, 4, 5, 13, 14] K
      ([(0, .list 1 a.length (a.map (.int .i64)) false), (1, v1), (2, v2), (3, v3), (4, v4), (5, v5), (13, .slice none 1 0 0 true), (14, .slice none 1 0 0 true), (15, .int .i64 0)], Heap.empty) =
    some (.exit 0, [(1, v1), (2, v2), (3, v3), (4, v4), (5, v5), (13, intsV Heap.empty ((a.take 8).map fun x => (m x : Int))), (14, .slice none 1 0 0 true)], intsH Heap.empty ((a.take 8).map fun x => (m x : Int))) := by
  have := vrun_list (L := a.take 8) (st := fun s i => ([(0, .list 1 a.length (a.map (.int .i64)) false), (1, v1), (2, v2), (3, v3), (4, v4), (5, v5), (13, intsV Heap.empty s), (14, .slice none 1 0 0 true), (15, .int .i64 i)], intsH Heap.empty s))
    (step := fun s x => s ++ [(m x : Int)]) (fin := fun s => (.exit 0, [(1, v1), (2, v2), (3, v3), (4, v4), (5, v5), (13, intsV Heap.empty s), (14, .slice none 1 0 0 true)], intsH Heap.empty s)) (fun s i => s.length = i)
    (fun s i hi hp => by
      have hi' := hi
      rw [List.length_take] at hi'
      have hia : i < a.length := by omega
      have e : (a.take 8)[i] = a[i] := List.getElem_take ..
      simp only [e]
      exact ⟨by simp [hp], round0 C K v1 v2 v3 v4 v5 h1 h2 h3 h4 h5 a i hia (by omega) (m a[i]) (hm0 _ (List.getElem_mem hia)) s (by omega)⟩)
    (fun s hp => end0 C K v1 v2 v3 v4 v5 h1 h2 h3 h4 h5 a _ (by rw [List.length_take]; omega) s) (a.take 8) 0 K [] rfl (Nat.zero_le _) rfl (by rw [List.length_take]; omega)
  rw [fold_map, List.nil_append] at this
  exact this

theorem loop1 (C : VCalls) (K : Nat) (hK : 8 < K) (v2 v3 v4 v5 : AV) (xs : List Int) (h2 : ∃ n cs ex, v2 = .list 1 n cs ex) (h3 : ∃ n cs ex, v3 = .list 1 n cs ex) (h4 : ∃ n, v4 = .int .i64 n) (h5 : ∃ n, v5 = .int .i64 n) (a : List Int) (m : Int → Nat) (hm0 : ∀ x ∈ a, ∀ fr H, H.Ok → C fr 49 [.int .i64 x] H = some (.int .i64 (m x : Int), H)) :
    vrun (vexec C K { mark := 0, tidy := [] } 120 VB18_1) true { mark := 0, tidy := [] } [1, 2, 3, 4, 5, 13, 14, 16] [2, 3, 4, 5, 13, 14] K
      ([(1, .list 1 a.length (a.map (.int .i64)) false), (2, v2), (3, v3), (4, v4), (5, v5), (13, intsV Heap.empty xs), (14, .slice none 1 0 0 true), (16, .int .i64 0)], intsH Heap.empty xs) =
    some (.exit 2, [(2, v2), (3, v3), (4, v4), (5, v5), (13, intsV Heap.empty xs), (14, intsV (intsH Heap.empty xs) ((a.take 8).map fun x => (m x : Int)))], intsH (intsH Heap.empty xs) ((a.take 8).map fun x => (m x : Int))) := by
  have := vrun_list (L := a.take 8) (st := fun s i => ([(1, .list 1 a.length (a.map (.int .i64)) false), (2, v2), (3, v3), (4, v4), (5, v5), (13, intsV Heap.empty xs), (14, intsV (intsH Heap.empty xs) s), (16, .int .i64 i)], intsH (intsH Heap.empty xs) s))
    (step := fun s x => s ++ [(m x : Int)]) (fin := fun s => (.exit 2, [(2, v2), (3, v3), (4, v4), (5, v5), (13, intsV Heap.empty xs), (14, intsV (intsH Heap.empty xs) s)], intsH (intsH Heap.empty xs) s)) (fun s i => s.length = i)
    (fun s i hi hp => by
      have hi' := hi
      rw [List.length_take] at hi'
      have hia : i < a.length := by omega
      have e : (a.take 8)[i] = a[i] := List.getElem_take ..
      simp only [e]
      exact ⟨by simp [hp], round1 C K v2 v3 v4 v5 xs h2 h3 h4 h5 a i hia (by omega) (m a[i]) (hm0 _ (List.getElem_mem hia)) s (by omega)⟩)
    (fun s hp => end1 C K v2 v3 v4 v5 xs h2 h3 h4 h5 a _ (by rw [List.length_take]; omega) s) (a.take 8) 0 K [] rfl (Nat.zero_le _) rfl (by rw [List.length_take]; omega)
  rw [fold_map, List.nil_append] at this
  exact this

theorem entry1 (v2 v3 v4 v5 : AV) (xs a : List Int) (h2 : ∃ n cs ex, v2 = .list 1 n cs ex) (h3 : ∃ n cs ex, v3 = .list 1 n cs ex) (h4 : ∃ n, v4 = .int .i64 n) (h5 : ∃ n, v5 = .int .i64 n) :
    vkeep true { mark := 0, tidy := [] } [(16, .int .i64 0), (1, .list 1 a.length (a.map (.int .i64)) false), (2, v2), (3, v3), (4, v4), (5, v5), (13, intsV Heap.empty xs), (14, .slice none 1 0 0 true)] [1, 2, 3, 4, 5, 13, 14, 16] (intsH Heap.empty xs) =
      ([(1, .list 1 a.length (a.map (.int .i64)) false), (2, v2), (3, v3), (4, v4), (5, v5), (13, intsV Heap.empty xs), (14, .slice none 1 0 0 true), (16, .int .i64 0)], intsH Heap.empty xs) := by
  obtain ⟨n2, cs2, ex2, rfl⟩ := h2
  obtain ⟨n3, cs3, ex3, rfl⟩ := h3
  obtain ⟨n4, rfl⟩ := h4
  obtain ⟨n5, rfl⟩ := h5
  cases xs <;> simp (maxDischargeDepth := 20) [vst_some, vgd_true, vgd_false, vgo_nil, vgo_cons, vgo_guard, bwanted_some, vop_p, vop_l, vop_k, vop_n, vnorm_some, vseqc_normal, vseqc_exit, vseqc_ret, vcondc_true, vcondc_false, vexec_dreg, vdgo_nil, vdgo_p, vdgo_l, vdgo_k, vdgo_n, vdgo_gp, vdgo_gl, vdgo_gk, vdgo_gn, vdp_some, vdl_some, vdk_some, vdn_some, vdw_true, vdw_false, room_zero, room_put, get_room, next_room, get_hide, hide_zero, vexec_skip, vexec_exit, vexec_ret, vexec_reg, vexec_seq, vexec_cond, vexec_block, vexec_loop, blockO_exit, blockO_normal, blockO_ret, vfin_some, vend_normal, vend_ret, vbody_eq, outO_normal, outO_exit, outO_ret, vround_eq, vkeep_false, bkeep_cons, bkeep_nil, bput_some, bput_none, look_cons, look_nil, AOp.sub, POp.sub, LOp.sub, KOp.sub, NOp.sub, AX.sub, AX.subO, AX.ev, vP, vL, vK, vN, vElems, vElemSize, aP, aL, aK, aN, cB_add, cB_sub, cB_mul, cB_eql, cB_neq, cB_lss, cB_leq, cB_gtr, cB_geq, cB_xor, cB_and, cB_or, cS_eql, cS_neq, cS_lss, cS_leq, cS_gtr, cS_geq, aLoad, aBytesStr, aElems, aElemSize, Mk.val, next_push, next_put, get_push, get_put, Heap.read, List.replicate, List.replicate_succ, start, vRes, vResL, vResults, List.headD, cut_zero, cut_p1, cut_p2, cut_p3, cut_p4, vexit, fz_int, fz_bool, fz_str, fz_nilFunc, fz_undef, fz_list, fz_elem, fz_nilptr, fz_nilmap, fz_ptr, fz_map, fz_nilslice, fz_func, fz_agg, fz_tuple, fz_slice, fzCells_some, fzL, fzTidy, reach, grow, idsOfL, idsOf, cellsOf, cut_put_lt, cut_push, put_put, okStore, aStore, ptrOk, AV.cells?, AV.isCell, Heap.write, aFill, aPart, aEqKs, aEqK, aUn, next_empty, idsOf_byteC, ren_byteC, fz_byteC, new_lt2, new_lt3, new_le2, new_le3, cut_zero, cut_p1, cut_p2, cut_p3, cut_p4, cut_app, cut_app0, cut_app1, new_lt, vkeep_true, gc, gcIds, reach, grow, idsOfL, idsOf, ddup, gcPush, gcTidy, zipKeep, renL, ren, renId, ixOf, cellsOf, cut_push, cut_put_lt, cut_put_ge, next_cut, get_cut, put_put, idsOfL_bytes, idsOfL_strs, idsOfL_ints, idsOfL_append, renL_bytes, renL_strs, renL_ints, renL_append, fzL_bytes, fzL_strs, fzL_ints, intsV, intsH]

theorem entry0 (l : Fast) (n0 n1 n2 n3 : Nat) (c0 c1 c2 c3 : List AV) (x4 x5 : Int) (h0 : look l 0 = .list 1 n0 c0 false) (h1 : look l 1 = .list 1 n1 c1 false) (h2 : look l 2 = .list 1 n2 c2 false) (h3 : look l 3 = .list 1 n3 c3 false) (h4 : look l 4 = .int .i64 x4) (h5 : look l 5 = .int .i64 x5) (h13 : look l 13 = .slice none 1 0 0 true) (h14 : look l 14 = .slice none 1 0 0 true) (h15 : look l 15 = .int .i64 0) :
    vkeep true { mark := 0, tidy := [] } l [0, 1, 2, 3, 4, 5, 13, 14, 15] Heap.empty =
      ([(0, .list 1 n0 c0 false), (1, .list 1 n1 c1 false), (2, .list 1 n2 c2 false), (3, .list 1 n3 c3 false), (4, .int .i64 x4), (5, .int .i64 x5), (13, .slice none 1 0 0 true), (14, .slice none 1 0 0 true), (15, .int .i64 0)], Heap.empty) := by
  simp (maxDischargeDepth := 20) [vst_some, vgd_true, vgd_false, vgo_nil, vgo_cons, vgo_guard, bwanted_some, vop_p, vop_l, vop_k, vop_n, vnorm_some, vseqc_normal, vseqc_exit, vseqc_ret, vcondc_true, vcondc_false, vexec_dreg, vdgo_nil, vdgo_p, vdgo_l, vdgo_k, vdgo_n, vdgo_gp, vdgo_gl, vdgo_gk, vdgo_gn, vdp_some, vdl_some, vdk_some, vdn_some, vdw_true, vdw_false, room_zero, room_put, get_room, next_room, get_hide, hide_zero, vexec_skip, vexec_exit, vexec_ret, vexec_reg, vexec_seq, vexec_cond, vexec_block, vexec_loop, blockO_exit, blockO_normal, blockO_ret, vfin_some, vend_normal, vend_ret, vbody_eq, outO_normal, outO_exit, outO_ret, vround_eq, vkeep_false, bkeep_cons, bkeep_nil, bput_some, bput_none, look_cons, look_nil, AOp.sub, POp.sub, LOp.sub, KOp.sub, NOp.sub, AX.sub, AX.subO, AX.ev, vP, vL, vK, vN, vElems, vElemSize, aP, aL, aK, aN, cB_add, cB_sub, cB_mul, cB_eql, cB_neq, cB_lss, cB_leq, cB_gtr, cB_geq, cB_xor, cB_and, cB_or, cS_eql, cS_neq, cS_lss, cS_leq, cS_gtr, cS_geq, aLoad, aBytesStr, aElems, aElemSize, Mk.val, next_push, next_put, get_push, get_put, Heap.read, List.replicate, List.replicate_succ, start, vRes, vResL, vResults, List.headD, cut_zero, cut_p1, cut_p2, cut_p3, cut_p4, vexit, fz_int, fz_bool, fz_str, fz_nilFunc, fz_undef, fz_list, fz_elem, fz_nilptr, fz_nilmap, fz_ptr, fz_map, fz_nilslice, fz_func, fz_agg, fz_tuple, fz_slice, fzCells_some, fzL, fzTidy, reach, grow, idsOfL, idsOf, cellsOf, cut_put_lt, cut_push, put_put, okStore, aStore, ptrOk, AV.cells?, AV.isCell, Heap.write, aFill, aPart, aEqKs, aEqK, aUn, next_empty, idsOf_byteC, ren_byteC, fz_byteC, new_lt2, new_lt3, new_le2, new_le3, cut_zero, cut_p1, cut_p2, cut_p3, cut_p4, cut_app, cut_app0, cut_app1, new_lt, vkeep_true, gc, gcIds, reach, grow, idsOfL, idsOf, ddup, gcPush, gcTidy, zipKeep, renL, ren, renId, ixOf, cellsOf, cut_push, cut_put_lt, cut_put_ge, next_cut, get_cut, put_put, idsOfL_bytes, idsOfL_strs, idsOfL_ints, idsOfL_append, renL_bytes, renL_strs, renL_ints, renL_append, fzL_bytes, fzL_strs, fzL_ints, h0, h1, h2, h3, h4, h5, h13, h14, h15]

theorem nblt {a b : Nat} (h : a < b) : Nat.blt a b = true := by rw [Nat.blt_eq]; exact h

theorem ok_intsH {H : Heap} (h : H.Ok) (s : List Int) : (intsH H s).Ok := by
  cases s with
  | nil => exact h
  | cons c s => exact ok_push h _

theorem at_ints {H : Heap} (s : List Int) : AtL (intsH H s) 1 s.length (s.map (.int .i64)) (intsV H s) := by
  cases s with
  | nil => exact .nil rfl rfl
  | cons c s => exact .own H.next _ false false true (by simp [intsH, get_push])

theorem at_ints2 {H : Heap} (hH : H.Ok) (s t : List Int) : AtL (intsH (intsH H s) t) 1 s.length (s.map (.int .i64)) (intsV H s) := by
  cases t with
  | nil => exact at_ints s
  | cons c t => exact (at_ints s).push (ok_intsH hH s) _

set_option maxRecDepth 20000 in
set_option maxHeartbeats 8000000 in
theorem pure : VLaw (fun xs => vcall 51 vtab KK 30 fr0 18 xs Heap.empty) [.list (.int .i64), .list (.int .i64), .list .str, .list .str, .int .i64, .int .i64] 1048576 := by
  intro ds hare hb
  obtain ⟨d1, r1, rfl, i1, hare⟩ := are_cons hare
  obtain ⟨d2, r2, rfl, i2, hare⟩ := are_cons hare
  obtain ⟨d3, r3, rfl, i3, hare⟩ := are_cons hare
  obtain ⟨d4, r4, rfl, i4, hare⟩ := are_cons hare
  obtain ⟨d5, r5, rfl, i5, hare⟩ := are_cons hare
  obtain ⟨d6, r6, rfl, i6, hare⟩ := are_cons hare
  obtain rfl := are_nil hare
  obtain ⟨la, rfl, hla⟩ := i1
  obtain ⟨a, rfl, ha⟩ := is_ints hla
  obtain ⟨lb, rfl, hlb⟩ := i2
  obtain ⟨b, rfl, hbb⟩ := is_ints hlb
  obtain ⟨ls, rfl, hls⟩ := i3
  obtain ⟨ws, rfl⟩ := is_strs hls
  obtain ⟨lt, rfl, hlt⟩ := i4
  obtain ⟨vs, rfl⟩ := is_strs hlt
  obtain ⟨bad, rfl, hbad⟩ := i5
  obtain ⟨at_, rfl, hat⟩ := i6
  simp only [D.bulks, D.bulk] at hb
  have hk : isKn 51 = true := rfl
  have hK : 1099511627776 < KK := by decide
  obtain ⟨m, hm⟩ := may_fun (K := KK) (d := 26) hk
  have hm1 := fun x (hx : x ∈ a) => (hm x (ha x hx)).2
  have hm2 := fun x (hx : x ∈ b) => (hm x (hbb x hx)).2
  have kn := fun H => vcall_kn (kn := 51) (K := KK) (d := 28) (fr := { mark := 0, tidy := [] }) (H := H)
  simp only [Nat.reduceAdd] at hm1 hm2 kn
  have f2 : ∃ n cs ex, AV.list 1 ws.length (ws.map .str) false = .list 1 n cs ex := ⟨_, _, _, rfl⟩
  have f3 : ∃ n cs ex, AV.list 1 vs.length (vs.map .str) false = .list 1 n cs ex := ⟨_, _, _, rfl⟩
  have lp0 := loop0 (vcall 51 vtab KK 29) KK (by omega) (.list 1 b.length (b.map (.int .i64)) false) _ _ (.int .i64 bad) (.int .i64 at_) ⟨_, _, _, rfl⟩ f2 f3 ⟨_, rfl⟩ ⟨_, rfl⟩ a m hm1
  have lp1 := loop1 (vcall 51 vtab KK 29) KK (by omega) _ _ (.int .i64 bad) (.int .i64 at_) ((a.take 8).map fun x => (m x : Int)) f2 f3 ⟨_, rfl⟩ ⟨_, rfl⟩ b m hm2
  have en1 := entry1 _ _ (.int .i64 bad) (.int .i64 at_) ((a.take 8).map fun x => (m x : Int)) b f2 f3 ⟨_, rfl⟩ ⟨_, rfl⟩
  have hx8 : ((a.take 8).map fun x => (m x : Int)).length ≤ 8 := by rw [List.length_map, List.length_take]; omega
  have hy8 : ((b.take 8).map fun x => (m x : Int)).length ≤ 8 := by rw [List.length_map, List.length_take]; omega
  have hxo : ∀ x ∈ ((a.take 8).map fun x => (m x : Int)), numsOk x = true := by
    intro x hx
    obtain ⟨y, hy, rfl⟩ := List.mem_map.1 hx
    have := (hm y (ha y (List.mem_of_mem_take hy))).1
    simp [numsOk]; omega
  have hyo : ∀ x ∈ ((b.take 8).map fun x => (m x : Int)), numsOk x = true := by
    intro x hx
    obtain ⟨y, hy, rfl⟩ := List.mem_map.1 hx
    have := (hm y (hbb y (List.mem_of_mem_take hy))).1
    simp [numsOk]; omega
  have ax := at_ints2 (ok_empty) ((a.take 8).map fun x => (m x : Int)) ((b.take 8).map fun x => (m x : Int))
  have ay := at_ints (H := intsH Heap.empty ((a.take 8).map fun x => (m x : Int))) ((b.take 8).map fun x => (m x : Int))
  have hM := ok_intsH (ok_intsH ok_empty ((a.take 8).map fun x => (m x : Int))) ((b.take 8).map fun x => (m x : Int))
  generalize ((a.take 8).map fun x => (m x : Int)) = xs at *
  generalize ((b.take 8).map fun x => (m x : Int)) = ys at *
  generalize intsV (intsH Heap.empty xs) ys = vy at *
  generalize intsH (intsH Heap.empty xs) ys = M at *
  generalize intsV Heap.empty xs = vx at *
  -- all
  have o0 := own_new (Nat.le_refl M.next) false
  have b0 := below_push hM (Nat.le_refl M.next) (.cells [] false false)
  obtain ⟨q1, e1, M1, t1, o1, x1, b1, -⟩ := app_at { mark := 0, tidy := [] } b0.ok o0 (fun _ => rfl) (Nat.zero_le _) 8 xs.length (xs.map (.int .i64)) (by simp) (by omega) (by omega)
  simp only [Nat.zero_add, List.nil_append] at t1 o1 x1
  have g1 := vElems_at (b0.up hM ax) (by simp)
  have g1' := vElemSize_at ax
  obtain ⟨q2, e2, M2, t2, o2, x2, b2, -⟩ := app_at { mark := 0, tidy := [] } b1.ok o1 x1 (Nat.zero_le _) 8 ys.length (ys.map (.int .i64)) (by simp) (by omega) (by omega)
  have g2 := vElems_at ((b0.trans b1).up hM ay) (by simp)
  have g2' := vElemSize_at ay
  have B2 := (b0.trans b1).trans b2
  rw [← List.map_append] at o2
  -- put
  have p1 := put_spec (K := KK) (d := 27) hk hK { mark := 0, tidy := [] } M2 b2.ok (.slice none 1 0 0 true) vx [] xs (by simp; omega) (.nil rfl rfl) (B2.up hM ax)
  have p2 := put_spec (K := KK) (d := 27) hk hK { mark := 0, tidy := [] } M2 b2.ok (bytesV (putOf [] xs)) vy (putOf [] xs) ys (by have := flat_num xs hxo; rw [putOf_all hxo, List.nil_append]; omega) (.list true) (B2.up hM ay)
  simp only [Nat.reduceAdd] at p1 p2
  -- texts
  have hws := bulk_strs (L := ws) (n := 1048576) (by omega)
  have hvs := bulk_strs (L := vs) (n := 1048576) (by omega)
  have hws2 := sumLen_bulk ws
  have hvs2 := sumLen_bulk vs
  have hws3 := flat_enc ws fun w hw => by have := hws.2 w hw; omega
  have o3 := own_new (Nat.le_refl M2.next) false
  have b3 := below_push b2.ok (Nat.le_refl M2.next) (.cells [] false false)
  obtain ⟨q4, e4, M4, t4, o4, x4, b4, -⟩ := app_at { mark := 0, tidy := [] } b3.ok o3 (fun _ => rfl) (Nat.zero_le _) 16 ws.length (ws.map .str) (by simp) (by omega) (by omega)
  simp only [Nat.zero_add, List.nil_append] at t4 o4 x4
  obtain ⟨q5, e5, M5, t5, o5, x5, b5, -⟩ := app_at { mark := 0, tidy := [] } b4.ok o4 x4 (Nat.zero_le _) 16 vs.length (vs.map .str) (by simp) (by omega) (by omega)
  rw [← List.map_append] at o5
  have s1 := text_spec (K := KK) (d := 26) hk hK { mark := 0, tidy := [] } M5 b5.ok (.slice none 1 0 0 true) (.list 1 ws.length (ws.map .str) false) [] ws (by simp only [List.length_nil]; omega) (.nil rfl rfl) (.list false)
  have s2 := text_spec (K := KK) (d := 26) hk hK { mark := 0, tidy := [] } M5 b5.ok (bytesV (txtFold [] ws).1) (.list 1 vs.length (vs.map .str) false) (txtFold [] ws).1 vs (by simp only [txtFold, txt_all, List.nil_append]; omega) (.list true) (.list false)
  simp only [Nat.reduceAdd] at s1 s2
  -- where
  have hat' : -9223372036854775808 ≤ at_ ∧ at_ ≤ 9223372036854775807 := hat
  have hbad' : -9223372036854775808 ≤ bad ∧ bad ≤ 9223372036854775807 := hbad
  have hN : (0 : Int) < (xs.length : Int) + ys.length + 1 := by omega
  have k1 := Int.emod_nonneg at_ (show ((xs.length : Int) + ys.length + 1) ≠ 0 by omega)
  have k2 := Int.emod_lt_of_pos at_ hN
  have pk := fun H hH => pick_spec (K := KK) (d := 28) hk { mark := 0, tidy := [] } H hH at_ ((xs.length : Int) + ys.length + 1) hN hat' (by omega)
  have hwn : IntKind.i64.wrap ((xs.length : Int) + ys.length + 1) = (xs.length : Int) + ys.length + 1 := by rw [wrap_i64] <;> omega
  obtain ⟨k, hkk⟩ : ∃ k : Nat, at_ % ((xs.length : Int) + ys.length + 1) = k := ⟨(at_ % ((xs.length : Int) + ys.length + 1)).toNat, by omega⟩
  rw [hkk] at pk k1 k2
  have hkl : k ≤ xs.length + ys.length := by omega
  have hkl' : (k : Int) ≤ (xs.length : Int) + ys.length := by omega
  have pb := fun H hH => pick_spec (K := KK) (d := 28) hk { mark := 0, tidy := [] } H hH bad 1000 (by omega) hbad' (by omega)
  have k3 := Int.emod_nonneg bad (show (1000 : Int) ≠ 0 by omega)
  have k4 := Int.emod_lt_of_pos bad (show (0 : Int) < 1000 by omega)
  obtain ⟨neg, hneg⟩ : ∃ neg, neg = -1 - bad % 1000 := ⟨_, rfl⟩
  have hwb : IntKind.i64.wrap (-1 - bad % 1000) = neg := by rw [hneg, wrap_i64] <;> omega
  simp only [Nat.reduceAdd] at pk pb
  have hnn : numsOk neg = false := by simp [numsOk]; omega
  -- wrong
  have B5 := (b3.trans b4).trans b5
  have w0 := below_push b5.ok (Nat.le_refl M5.next) (.cells [] false false)
  have w1 : Below M5.next M5 ((M5.push (.cells [] false false)).room 1) := ⟨fun b hb => w0.get b hb, by have := w0.next; simp only [next_room]; omega, ok_room w0.ok 1⟩
  have o6 : Own ((M5.push (.cells [] false false)).room 1) M5.next 0 [] M5.next true := ⟨⟨false, by simp [get_room, get_push]⟩, Nat.le_refl _, by simp only [next_room, next_push]; omega, rfl⟩
  have oa5 := o2.up B5 o2.lt
  have hq2 : q2 < M5.next := oa5.lt
  have oa6 := oa5.up w1 hq2
  have g6 := vElems_part oa6 0 k (xs.length + ys.length) e2 (by omega)
  rw [List.drop_zero] at g6
  obtain ⟨q7, e7, M7, t7, o7, x7, b7, u7⟩ := app_at { mark := 0, tidy := [] } w1.ok o6 (fun _ => rfl) (Nat.zero_le _) 8 k (((xs ++ ys).map (AV.int .i64)).take k) (by simp; omega) (by omega) (by omega)
  simp only [Nat.zero_add, List.nil_append] at t7 o7 x7
  have z7 : M7.get (M5.next + 1) = none := by
    rw [u7 _ (by omega) (by simp only [next_room, next_push]; omega), get_room, get_push, if_neg (by omega)]
    exact b5.ok _ (by omega)
  have h7q : q7 ≠ M5.next + 1 := fun e => by
    obtain ⟨sl, hg⟩ := o7.get
    rw [e, z7] at hg
    cases hg
  have n7 : M5.next + 2 ≤ M7.next := by have := b7.next; simp only [next_room, next_push] at this; omega
  have w8 : Below M5.next M7 (M7.put (M5.next + 1) (some (.cells [.int .i64 neg] false false))) := ⟨fun b hb => by rw [get_put, if_neg (by omega)], by simp [next_put], ok_put b7.ok (by omega) _⟩
  have o8 : Own (M7.put (M5.next + 1) (some (.cells [.int .i64 neg] false false))) M5.next k (((xs ++ ys).map (AV.int .i64)).take k) q7 e7 := by
    obtain ⟨sl, hg⟩ := o7.get
    exact ⟨⟨sl, by rw [get_put, if_neg h7q]; exact hg⟩, o7.ge, by simpa [next_put] using o7.lt, o7.len⟩
  have on8 : Own (M7.put (M5.next + 1) (some (.cells [.int .i64 neg] false false))) M5.next 1 [.int .i64 neg] (M5.next + 1) true := ⟨⟨false, by simp [get_put]⟩, by omega, by rw [next_put]; omega, by simp⟩
  have g8 := vElems_part on8 0 1 1 true (by omega)
  simp only [List.drop_zero, List.take_succ_cons, List.take_zero] at g8
  obtain ⟨q9, e9, M9, t9, o9, x9, b9, -⟩ := app_at { mark := 0, tidy := [] } w8.ok o8 x7 (Nat.zero_le _) 8 1 [.int .i64 neg] rfl (by omega) (by omega)
  have oa9 := oa6.up ((b7.trans w8).trans b9) hq2
  have g9 := vElems_part oa9 k (xs.length + ys.length - k) (xs.length + ys.length - k) e2 (by omega)
  obtain ⟨q10, e10, M10, t10, o10, x10, b10, -⟩ := app_at { mark := 0, tidy := [] } b9.ok o9 x9 (Nat.zero_le _) 8 (xs.length + ys.length - k) ((((xs ++ ys).map (AV.int .i64)).drop k).take (xs.length + ys.length - k)) (by simp) (by omega) (by omega)
  have oa10 := oa9.up b10 hq2
  have e10' : ((((xs ++ ys).map (AV.int .i64)).take k ++ [.int .i64 neg]) ++ (((xs ++ ys).map (AV.int .i64)).drop k).take (xs.length + ys.length - k)) = ((xs ++ ys).take k ++ [neg] ++ (xs ++ ys).drop k).map (AV.int .i64) := by
    rw [List.take_of_length_le (l := (((xs ++ ys).map (AV.int .i64)).drop k)) (by simp)]
    simp only [List.map_append, List.map_take, List.map_drop, List.map_cons, List.map_nil]
  rw [e10'] at o10
  have hn10 : k + 1 + (xs.length + ys.length - k) = xs.length + ys.length + 1 := by omega
  rw [hn10] at t10 o10 x10
  have ot10 := o5.up (((w1.trans b7).trans w8).trans (b9.trans b10)) o5.lt
  -- the last
  have v1 : Below M10.next M10 (M10.room 1) := ⟨fun b hb => rfl, by simp [next_room], ok_room b10.ok 1⟩
  have v2 := below_push b10.ok (Nat.le_refl M10.next) (.cells [.int .u8 1] false false)
  have p3 := put_spec (K := KK) (d := 27) hk hK { mark := 0, tidy := [] } (M10.room 1) v1.ok (.slice none 1 0 0 true) _ [] (xs ++ ys) (by simp; omega) (.nil rfl rfl) (by have := (oa10.up v1 oa10.lt).at; rw [List.length_append]; exact this)
  have s3 := text_spec (K := KK) (d := 26) hk hK { mark := 0, tidy := [] } (M10.room 1) v1.ok (.slice none 1 0 0 true) _ [] (ws ++ vs) (by simp only [sumLen, List.map_append, List.sum_append, List.length_append, List.length_nil] at hws2 hvs2 ⊢; omega) (.nil rfl rfl) (by have := (ot10.up v1 ot10.lt).at; rw [List.length_append]; exact this)
  have p4 := put_spec (K := KK) (d := 27) hk hK { mark := 0, tidy := [] } (M10.push (.cells [.int .u8 1] false false)) v2.ok (.slice (some (M10.next, 0)) 1 1 1 true) (.slice (some (q10, 0)) 1 (xs.length + ys.length + 1) (xs.length + ys.length + 1) e10) [1] ((xs ++ ys).take k ++ [neg] ++ (xs ++ ys).drop k) (by simp; omega) (.own M10.next 1 true false false (by simp [get_push]; rfl)) (by have := ((o10.up v2 o10.lt).at); rw [show ((xs ++ ys).take k ++ [neg] ++ (xs ++ ys).drop k).length = xs.length + ys.length + 1 by simp; omega]; exact this)
  simp only [Nat.reduceAdd] at p3 p4 s3
  rw [putOf_bad (x := neg) (by simp) hnn] at p4
  have P1 : putOf (putOf [] xs) ys = putOf [] (xs ++ ys) := by
    rw [putOf_all hxo, putOf_all hyo, putOf_all (l := xs ++ ys) (by intro x hx; rcases List.mem_append.1 hx with h | h; exact hxo x h; exact hyo x h)]
    simp
  have T1 : (txtFold (txtFold [] ws).1 vs).1 = (txtFold [] (ws ++ vs)).1 := by
    simp only [txtFold, txt_all, List.flatMap_append, List.nil_append]
  rw [P1] at p2
  rw [T1] at s2
  have tbP := toBytes_map (putOf [] (xs ++ ys))
  have tbT := toBytes_map (txtFold [] (ws ++ vs)).1
  generalize putOf [] (xs ++ ys) = PP at *
  generalize (txtFold [] (ws ++ vs)).1 = TT at *
  have cP : (if PP = [] then some (AV.str []) else some (AV.str PP)) = some (AV.str PP) := by split <;> simp_all
  have cT : (if TT = [] then some (AV.str []) else some (AV.str TT)) = some (AV.str TT) := by split <;> simp_all
  clear e10'
  generalize (((xs ++ ys).map (AV.int .i64)).drop k).take (xs.length + ys.length - k) = dk at *
  generalize ((xs ++ ys).map (AV.int .i64)).take k = tk at *
  simp only [bytesV, List.length_nil, List.map_nil] at p1 p2 p3 p4 s1 s2 s3
  have en0 := fun l h0 h1 h2 h3 h4 h5 h13 h14 h15 => entry0 l a.length b.length ws.length vs.length (a.map (.int .i64)) (b.map (.int .i64)) (ws.map .str) (vs.map .str) bad at_ h0 h1 h2 h3 h4 h5 h13 h14 h15
  refine ⟨Heap.empty, ?_⟩
  simp only [encArgs, encArg, encS, encL_strs, encL_ints, List.headD, shSize]
  rw [vcall_bare hk rfl rfl rfl]
  simp (maxDischargeDepth := 20) [VF18, vst_some, vgd_true, vgd_false, vgo_nil, vgo_cons, vgo_guard, bwanted_some, vop_p, vop_l, vop_k, vop_n, vnorm_some, vseqc_normal, vseqc_exit, vseqc_ret, vcondc_true, vcondc_false, vexec_dreg, vdgo_nil, vdgo_p, vdgo_l, vdgo_k, vdgo_n, vdgo_gp, vdgo_gl, vdgo_gk, vdgo_gn, vdp_some, vdl_some, vdk_some, vdn_some, vdw_true, vdw_false, room_zero, room_put, get_room, next_room, get_hide, hide_zero, vexec_skip, vexec_exit, vexec_ret, vexec_reg, vexec_seq, vexec_cond, vexec_block, vexec_loop, blockO_exit, blockO_normal, blockO_ret, vfin_some, vend_normal, vend_ret, vbody_eq, outO_normal, outO_exit, outO_ret, vround_eq, vkeep_false, bkeep_cons, bkeep_nil, bput_some, bput_none, look_cons, look_nil, AOp.sub, POp.sub, LOp.sub, KOp.sub, NOp.sub, AX.sub, AX.subO, AX.ev, vP, vL, vK, vN, vE_list, vE_str, vE_nil, vE_slice, vS_list, vS_str, vS_nil, vS_slice, aP, aL, aK, aN, cB_add, cB_sub, cB_mul, cB_eql, cB_neq, cB_lss, cB_leq, cB_gtr, cB_geq, cB_xor, cB_and, cB_or, cS_eql, cS_neq, cS_lss, cS_leq, cS_gtr, cS_geq, aLoad, aBytesStr, Mk.val, next_push, next_put, get_push, get_put, Heap.read, List.replicate, List.replicate_succ, start, vRes, vResL, vResults, List.headD, cut_zero, cut_p1, cut_p2, cut_p3, cut_p4, vexit, fz_int, fz_bool, fz_str, fz_nilFunc, fz_undef, fz_list, fz_elem, fz_nilptr, fz_nilmap, fz_ptr, fz_map, fz_nilslice, fz_func, fz_agg, fz_tuple, fz_slice, fzCells_some, fzL, fzTidy, reach, grow, idsOfL, idsOf, cellsOf, cut_put_lt, cut_push, put_put, okStore, aStore, ptrOk, AV.cells?, AV.isCell, Heap.write, aFill, aPart, aEqKs, aEqK, aUn, next_empty, loadOk, ofList, isList, bornL, bornX, bornOf, bornPut, bornP, known, knownL, AV.same, List.all_cons, List.all_nil, List.drop_zero, List.isEmpty_cons, List.isEmpty_nil, reps, kn, ok_push, ok_put, ok_empty, en0, lp0, lp1, en1, t1, t2, g1, g1', g2, g2', p1, p2, t4, t5, s1, s2, pk, pb, hwn, hwb, hkl, hkl', vSlice, aSlice, aBoundO, aBound, aShift, aSliceStr, g6, t7, g8, t9, g9, t10, w1.ok, b7.ok, b9.ok, b10.ok, b5.ok, v1.ok, p3, s3, p4, hn10, tbP, tbT, cP, cT, nblt]
end numsJoins
end Go.Proofs.Yteibgagdnidojaa
